/- Contracts of functions: what each one returns, and what it leaves. No statement is proved here. -/
import Derived.Test.YtfcbhgiccgommaaF10
import Derived.Shelf.Sort.Plain
set_option linter.unusedVariables false
set_option linter.unusedSimpArgs false
set_option linter.unusedSectionVars false
namespace Go.Proofs.Ytfcbhgiccgommaa.F10
open Go Go.Proofs Go.Proofs.YtfcbhgiccgommaaAbs
variable [Base]
set_option maxRecDepth 100000
abbrev rdW (g : AMem) (v : Value) (ws : List (BitVec 64)) : Prop := Rd g 1 (fun w => [U w]) v ws
abbrev rdI (g : AMem) (v : Value) (xs : List Int) : Prop := Rd g 1 (fun x => [.int .i64 x]) v xs
end Go.Proofs.Ytfcbhgiccgommaa.F10

namespace Go.Proofs.Ytfcbhgiccgommaa.F10
open Go Go.Proofs Go.Proofs.YtfcbhgiccgommaaAbs
variable [Base]
theorem LKk {k : IntKind} {v : Value} (h : (LK.int k).is v) : ∃ x : Int, v = .int k x ∧ k.min ≤ x ∧ x ≤ k.max := by
  obtain ⟨x, rfl, hx⟩ := h
  simp only [Lit.wf, Bool.and_eq_true, decide_eq_true_eq] at hx
  exact ⟨x, rfl, hx.1, hx.2⟩
theorem LKf {v : Value} (h : (LK.float .f64).is v) : ∃ x : Nat, v = .float .f64 x ∧ x < 18446744073709551616 := by
  obtain ⟨x, rfl, hx⟩ := h
  simp only [Lit.wf, decide_eq_true_eq] at hx
  exact ⟨x, rfl, hx⟩
theorem okWide_f64 {P : Program} {W : World} {r : Reach} {base : Nat} {t : TypeId} {v : Value} (ht : P.underlying t = some (.float .f64)) (h : Value.okWide P W r base t v) : ∃ n, v = .float .f64 n := by
  simp only [Value.okWide, ht, Cell.okWide] at h
  cases v <;> simp_all [Cell.ok]
theorem decWo {H : Type} {enc : TypeId × Value → H} {W : World} : ∀ c, Cells enc Try.prog W [.flat (.int .u64)] c → ∃ x : BitVec 64, [U x] = c ∧ True := fun c h => by
  obtain ⟨a, rfl, ha⟩ := h.flats1
  obtain ⟨x, rfl⟩ := LK.u64 ha
  exact ⟨x, rfl, trivial⟩
end Go.Proofs.Ytfcbhgiccgommaa.F10

namespace Go.Proofs.Ytfcbhgiccgommaa.F10
open Go Go.Proofs Go.Proofs.YtfcbhgiccgommaaAbs
variable [Base]
theorem decI {H : Type} {enc : TypeId × Value → H} {W : World} : ∀ c, Cells enc Try.prog W [.flat (.int .i64)] c → ∃ x : Int, [Value.int .i64 x] = c ∧ True := fun c h => by
  have hl := h.len
  simp only [List.length_cons, List.length_nil] at hl
  match c, hl, h with
  | [p], _, h =>
    obtain ⟨x, rfl, _⟩ := LK.i64 (h.at_ 0 (by simp) (by simp))
    exact ⟨x, rfl, trivial⟩
end Go.Proofs.Ytfcbhgiccgommaa.F10

namespace Go.Proofs.Ytfcbhgiccgommaa.F10
open Go Go.Proofs Go.Proofs.YtfcbhgiccgommaaAbs
variable [Base]
set_option maxRecDepth 100000
/-! ### Forests, with no program in sight -/
/-- What a place came of. -/
def upAt (u : List Int) (i : Int) : Int := u.getD i.toNat (-2)
def isF (u : List Int) (i : Int) : Bool := decide (0 ≤ i ∧ i < u.length ∧ upAt u i ≠ -2)
def upOk (u : List Int) (x : Int) : Bool := decide (x = -2 ∨ x = -1) || isF u x
def okUp (u : List Int) : Bool := u.all (upOk u)
def walkF (u : List Int) : Nat → Int → Bool
  | 0, a => !isF u a
  | f + 1, a => !isF u a || walkF u f (upAt u a)
def goodF (u : List Int) : Bool := decide (u.length ≤ 96) && (okUp u && (List.range u.length).all fun i => walkF u (u.length + 1) i)
def dpF (u : List Int) : Nat → Int → Nat
  | 0, _ => 0
  | f + 1, i => if isF u (upAt u i) = true then dpF u f (upAt u i) + 1 else 0
/-- How deep a place is. -/
def dpt (u : List Int) (i : Int) : Nat := dpF u (u.length + 2) i
theorem isF_iff {u : List Int} {i : Int} : isF u i = true ↔ 0 ≤ i ∧ i < u.length ∧ upAt u i ≠ -2 := by simp [isF]
theorem upAt_nat {u : List Int} {i : Nat} (h : i < u.length) : upAt u i = u[i] := by simp [upAt, h]
theorem upAt_int {u : List Int} {i : Int} (h0 : 0 ≤ i) (h : i < u.length) : ∃ h' : i.toNat < u.length, upAt u i = u[i.toNat] := ⟨by omega, by simp [upAt, show i.toNat < u.length by omega]⟩
theorem ne_root {u : List Int} : isF u (-1) = false := by simp [isF]
theorem ne_two {u : List Int} : isF u (-2) = false := by simp [isF]
theorem dpF_stable {u : List Int} : ∀ (f : Nat) (a : Int), isF u a = true → walkF u f a = true → ∀ f', f ≤ f' → dpF u f' a = dpF u f a
  | 0, a, h, hw, f', hf => by rw [walkF, h] at hw; cases hw
  | f + 1, a, h, hw, f', hf => by
    rw [walkF, h] at hw
    obtain ⟨k, rfl⟩ : ∃ k, f' = k + 1 := ⟨f' - 1, by omega⟩
    rw [dpF, dpF]
    split
    · rename_i h1; rw [dpF_stable f _ h1 (by simpa using hw) k (by omega)]
    · rfl
/-- A rank: how deep each is. -/
structure RkF (u : List Int) (r : Int → Nat) : Prop where
  root : ∀ i, isF u i = true → upAt u i = -1 → r i = 0
  step : ∀ i, isF u i = true → upAt u i ≠ -1 → isF u (upAt u i) = true ∧ r i = r (upAt u i) + 1
theorem good_parts {u : List Int} (h : goodF u = true) : u.length ≤ 96 ∧ okUp u = true ∧ ∀ i, i < u.length → walkF u (u.length + 1) i = true := by
  simp only [goodF, Bool.and_eq_true, decide_eq_true_eq, List.all_eq_true, List.mem_range] at h
  exact ⟨h.1, h.2.1, h.2.2⟩
theorem ok_at {u : List Int} (h : okUp u = true) {i : Int} (hi : isF u i = true) (h1 : upAt u i ≠ -1) : isF u (upAt u i) = true := by
  obtain ⟨a, b, c⟩ := isF_iff.1 hi
  obtain ⟨h', e⟩ := upAt_int a b
  have := List.all_eq_true.1 h _ (List.getElem_mem h')
  rw [← e] at this
  simp only [upOk, Bool.or_eq_true, decide_eq_true_eq] at this
  rcases this with (h | h) | h
  · exact absurd h c
  · exact absurd h h1
  · exact h
theorem good_rk {u : List Int} (h : goodF u = true) : RkF u (dpt u) := by
  obtain ⟨h1, h2, h3⟩ := good_parts h
  refine ⟨fun i hi hr => ?_, fun i hi hr => ?_⟩
  · rw [dpt, dpF, hr, ne_root]; rfl
  · have hu := ok_at h2 hi hr
    refine ⟨hu, ?_⟩
    obtain ⟨a, b, c⟩ := isF_iff.1 hi
    have hw := h3 i.toNat (by omega)
    rw [show ((i.toNat : Nat) : Int) = i by omega, walkF, hi] at hw
    have hw : walkF u u.length (upAt u i) = true := by simpa using hw
    rw [dpt, dpF, if_pos hu, dpt, dpF_stable _ _ hu hw (u.length + 1) (by omega), dpF_stable _ _ hu hw (u.length + 2) (by omega)]
theorem countP_lt {α : Type} {p q : α → Bool} : ∀ {l : List α} (h : ∀ x, x ∈ l → p x = true → q x = true) {a : α}, a ∈ l → q a = true → p a = false → l.countP p + 1 ≤ l.countP q
  | x :: l, h, a, ha, hq, hp => by
    have hx := h x List.mem_cons_self
    have hm := List.countP_mono_left (l := l) (p := p) (q := q) fun x hx => h x (List.mem_cons_of_mem _ hx)
    rcases List.mem_cons.1 ha with rfl | ha
    · rw [List.countP_cons_of_pos hq, List.countP_cons_of_neg (by simp [hp])]; omega
    · have ih := countP_lt (fun x hx => h x (List.mem_cons_of_mem _ hx)) ha hq hp
      rw [List.countP_cons, List.countP_cons]
      cases e : p x
      · simp; omega
      · rw [hx e]; simp; omega
theorem RkF.count {u : List Int} {r : Int → Nat} (h : RkF u r) : ∀ (d : Nat) (i : Int), isF u i = true → r i = d → d + 1 ≤ (List.range u.length).countP fun k : Nat => isF u k && decide (r k ≤ d)
  | d, i, hi, hd => by
    obtain ⟨a, b, c⟩ := isF_iff.1 hi
    have hm : i.toNat ∈ List.range u.length := List.mem_range.2 (by omega)
    have ei : ((i.toNat : Nat) : Int) = i := by omega
    cases d with
    | zero =>
      exact List.countP_pos_iff.2 ⟨_, hm, by simp [ei, hi, hd]⟩
    | succ d =>
      have hr : upAt u i ≠ -1 := fun hr => by have := h.root i hi hr; omega
      obtain ⟨h1, h2⟩ := h.step i hi hr
      have ih := h.count d _ h1 (by omega)
      refine Nat.le_trans (Nat.succ_le_succ ih) (countP_lt (fun x _ hx => ?_) hm ?_ ?_)
      · simp only [Bool.and_eq_true, decide_eq_true_eq] at hx ⊢; exact ⟨hx.1, by omega⟩
      · simp [ei, hi, hd]
      · simp [ei, hd]
theorem RkF.lt {u : List Int} {r : Int → Nat} (h : RkF u r) {i : Int} (hi : isF u i = true) : r i < u.length := by
  have h1 := h.count _ i hi rfl
  have h2 := List.countP_le_length (p := fun k : Nat => isF u k && decide (r k ≤ r i)) (l := List.range u.length)
  rw [List.length_range] at h2
  omega
theorem RkF.walk {u : List Int} {r : Int → Nat} (h : RkF u r) : ∀ (f : Nat) (a : Int), (isF u a = true → r a < f) → walkF u f a = true
  | 0, a, ha => by
    rw [walkF]
    cases e : isF u a
    · rfl
    · exact absurd (ha e) (by omega)
  | f + 1, a, ha => by
    rw [walkF]
    cases e : isF u a
    · rfl
    · refine h.walk f _ fun hu => ?_
      have hr : upAt u a ≠ -1 := fun hr => by rw [hr, ne_root] at hu; cases hu
      have := (h.step a e hr).2
      have := ha e
      omega
theorem RkF.ok {u : List Int} {r : Int → Nat} (h : RkF u r) : okUp u = true := by
  refine List.all_eq_true.2 fun x hx => ?_
  obtain ⟨k, hk, rfl⟩ := List.getElem_of_mem hx
  have e := upAt_nat hk
  by_cases h1 : u[k] = -2
  · simp [upOk, h1]
  by_cases h2 : u[k] = -1
  · simp [upOk, h2]
  have hi : isF u k = true := isF_iff.2 ⟨by omega, by omega, by rw [e]; exact h1⟩
  have := (h.step k hi (by rw [e]; exact h2)).1
  rw [e] at this
  simp [upOk, this]
theorem RkF.good {u : List Int} {r : Int → Nat} (h : RkF u r) (hl : u.length ≤ 96) : goodF u = true := by
  simp only [goodF, Bool.and_eq_true, decide_eq_true_eq, List.all_eq_true, List.mem_range]
  exact ⟨hl, h.ok, fun i hi => h.walk _ _ fun hf => Nat.lt_succ_of_lt (h.lt hf)⟩
theorem RkF.uniq {u : List Int} {r r' : Int → Nat} (h : RkF u r) (h' : RkF u r') : ∀ (d : Nat) (i : Int), isF u i = true → r i = d → r' i = d
  | d, i, hi, hd => by
    by_cases hr : upAt u i = -1
    · rw [← hd, h.root i hi hr, h'.root i hi hr]
    · obtain ⟨h1, h2⟩ := h.step i hi hr
      obtain ⟨_, h3⟩ := h'.step i hi hr
      cases d with
      | zero => omega
      | succ d => rw [h3, h.uniq h' d _ h1 (by omega)]
theorem RkF.dptEq {u : List Int} {r : Int → Nat} (h : RkF u r) (hl : u.length ≤ 96) {i : Int} (hi : isF u i = true) : dpt u i = r i := (good_rk (h.good hl)).uniq h _ i hi rfl |>.symm
/-! ### Those above -/
def chF (u : List Int) : Nat → Int → List Int
  | 0, _ => []
  | f + 1, a => if isF u (upAt u a) = true then upAt u a :: chF u f (upAt u a) else []
def ancs (u : List Int) (a : Int) : List Int := chF u u.length a
theorem RkF.chEq {u : List Int} {r : Int → Nat} (h : RkF u r) : ∀ (f f' : Nat) (a : Int), isF u a = true → r a ≤ f → r a ≤ f' → chF u f a = chF u f' a
  | 0, 0, a, _, _, _ => rfl
  | 0, f' + 1, a, ha, h1, h2 => by
    rw [chF, chF, if_neg]
    intro hu
    have hr : upAt u a ≠ -1 := fun hr => by rw [hr, ne_root] at hu; cases hu
    have := (h.step a ha hr).2
    omega
  | f + 1, 0, a, ha, h1, h2 => by
    rw [chF, chF, if_neg]
    intro hu
    have hr : upAt u a ≠ -1 := fun hr => by rw [hr, ne_root] at hu; cases hu
    have := (h.step a ha hr).2
    omega
  | f + 1, f' + 1, a, ha, h1, h2 => by
    rw [chF, chF]
    split
    · rename_i hu
      have hr : upAt u a ≠ -1 := fun hr => by rw [hr, ne_root] at hu; cases hu
      have := (h.step a ha hr).2
      rw [h.chEq f f' _ hu (by omega) (by omega)]
    · rfl
theorem RkF.ancs_root {u : List Int} {r : Int → Nat} (h : RkF u r) {a : Int} (ha : isF u a = true) (hr : upAt u a = -1) : ancs u a = [] := by
  unfold ancs
  cases u.length with
  | zero => rfl
  | succ n => rw [chF, hr, ne_root]; rfl
theorem RkF.ancs_step {u : List Int} {r : Int → Nat} (h : RkF u r) {a : Int} (ha : isF u a = true) (hr : upAt u a ≠ -1) : ancs u a = upAt u a :: ancs u (upAt u a) := by
  obtain ⟨h1, h2⟩ := h.step a ha hr
  have h3 := h.lt ha
  have h4 := h.lt h1
  unfold ancs
  rw [h.chEq u.length (u.length + 1) a ha (by omega) (by omega), chF, if_pos h1]
theorem RkF.ancs_lt {u : List Int} {r : Int → Nat} (h : RkF u r) : ∀ (d : Nat) (a : Int), isF u a = true → r a = d → ∀ i, i ∈ ancs u a → isF u i = true ∧ r i < d
  | d, a, ha, hd, i, hi => by
    by_cases hr : upAt u a = -1
    · rw [h.ancs_root ha hr] at hi; cases hi
    · rw [h.ancs_step ha hr] at hi
      obtain ⟨h1, h2⟩ := h.step a ha hr
      rcases List.mem_cons.1 hi with rfl | hi
      · exact ⟨h1, by omega⟩
      · cases d with
        | zero => omega
        | succ d =>
          obtain ⟨h3, h4⟩ := h.ancs_lt d _ h1 (by omega) i hi
          exact ⟨h3, by omega⟩
/-- Straight from one. -/
def kidsF (u : List Int) (i : Int) : List Int := ((List.range u.length).filter fun k => decide (upAt u (k : Nat) = i)).map Int.ofNat
theorem mem_kids {u : List Int} {i k : Int} : k ∈ kidsF u i ↔ 0 ≤ k ∧ k < u.length ∧ upAt u k = i := by
  simp only [kidsF, List.mem_map, List.mem_filter, List.mem_range, decide_eq_true_eq]
  constructor
  · rintro ⟨a, ⟨h1, h2⟩, rfl⟩; exact ⟨Int.natCast_nonneg _, Int.ofNat_lt.2 h1, h2⟩
  · rintro ⟨h1, h2, h3⟩; exact ⟨k.toNat, ⟨by omega, by rw [show ((k.toNat : Nat) : Int) = k by omega]; exact h3⟩, show ((k.toNat : Nat) : Int) = k by omega⟩
theorem kids_nodup (u : List Int) (i : Int) : (kidsF u i).Nodup := by
  unfold kidsF
  refine List.Pairwise.map (R := fun a b => a ≠ b) _ (fun a b h e => h (Int.ofNat.inj e)) ?_
  exact List.Pairwise.filter _ List.nodup_range
theorem kids_is {u : List Int} {i k : Int} (hi : i ≠ -2) (h : k ∈ kidsF u i) : isF u k = true := by
  obtain ⟨h1, h2, h3⟩ := mem_kids.1 h
  exact isF_iff.2 ⟨h1, h2, by rw [h3]; exact hi⟩
/-- Is one below the other, or the same? -/
def subF (u : List Int) (j k : Int) : Bool := decide (j = k) || decide (j ∈ ancs u k)
def behF (u : List Int) : Nat → List Int → List Int
  | 0, _ => []
  | f + 1, l => l.flatMap fun i => i :: behF u f (kidsF u i)
theorem RkF.kids_count {u : List Int} {r : Int → Nat} (h : RkF u r) : ∀ (d : Nat) (i k : Int), i ≠ -2 → (i = -1 ∨ isF u i = true) → isF u k = true → r k = d →
    (kidsF u i).countP (fun j => subF u j k) = if i = -1 ∨ i ∈ ancs u k then 1 else 0
  | d, i, k, hi, hi', hk, hd => by
    obtain ⟨k0, k1, k2⟩ := isF_iff.1 hk
    by_cases hr : upAt u k = -1
    · rw [h.ancs_root hk hr]
      have e : (kidsF u i).countP (fun j => subF u j k) = (kidsF u i).count k := by
        unfold List.count
        refine List.countP_congr fun j _ => ?_
        simp [subF, h.ancs_root hk hr]
      rw [e]
      by_cases hm : k ∈ kidsF u i
      · have := (mem_kids.1 hm).2.2
        rw [(kids_nodup u i).count, if_pos hm, if_pos (Or.inl (by omega))]
      · rw [List.count_eq_zero_of_not_mem hm, if_neg]
        rintro (rfl | h)
        · exact hm (mem_kids.2 ⟨k0, k1, hr⟩)
        · cases h
    · obtain ⟨p1, p2⟩ := h.step k hk hr
      have ha := h.ancs_step hk hr
      by_cases hp : upAt u k = i
      · have e : (kidsF u i).countP (fun j => subF u j k) = (kidsF u i).count k := by
          unfold List.count
          refine List.countP_congr fun j hj => ?_
          have hj1 := (mem_kids.1 hj).2.2
          have hji := kids_is hi hj
          have hr' : upAt u j ≠ -1 := by rw [hj1, ← hp]; exact hr
          have := (h.step j hji hr').2
          have n1 : j ∉ ancs u k := fun hc => by
            rw [ha, hp] at hc
            rw [hj1] at this
            rcases List.mem_cons.1 hc with rfl | hc
            · omega
            · have := (h.ancs_lt _ _ (hp ▸ p1) rfl _ hc).2; omega
          simp [subF, n1]
        rw [e, (kids_nodup u i).count, if_pos (mem_kids.2 ⟨k0, k1, hp⟩), if_pos (Or.inr (by rw [ha, hp]; exact List.mem_cons_self))]
      · cases d with
        | zero => omega
        | succ d =>
          have ih := h.kids_count d i (upAt u k) hi hi' p1 (by omega)
          have e : (kidsF u i).countP (fun j => subF u j k) = (kidsF u i).countP (fun j => subF u j (upAt u k)) := by
            refine List.countP_congr fun j hj => ?_
            have hj1 := (mem_kids.1 hj).2.2
            have n1 : j ≠ k := fun e => hp (by rw [← e]; exact hj1)
            simp [subF, n1, ha]
          rw [e, ih, ha]
          have n2 : i ≠ upAt u k := fun e => hp e.symm
          simp [n2]
theorem beh_is {u : List Int} : ∀ (f : Nat) (l : List Int), (∀ j, j ∈ l → isF u j = true) → ∀ k, k ∈ behF u f l → isF u k = true
  | 0, l, hl, k, hk => by cases hk
  | f + 1, l, hl, k, hk => by
    simp only [behF, List.mem_flatMap, List.mem_cons] at hk
    obtain ⟨i, h1, h2⟩ := hk
    rcases h2 with rfl | h2
    · exact hl _ h1
    · have hi := hl i h1
      exact beh_is f _ (fun j hj => kids_is (fun e => by rw [e, ne_two] at hi; cases hi) hj) k h2
theorem RkF.beh_count {u : List Int} {r : Int → Nat} (h : RkF u r) : ∀ (f : Nat) (l : List Int), (∀ j, j ∈ l → isF u j = true ∧ u.length ≤ r j + f) → ∀ k, isF u k = true → (behF u f l).count k = l.countP (fun j => subF u j k)
  | 0, l, hl, k, hk => by
    cases l with
    | nil => rfl
    | cons j l => have := hl j List.mem_cons_self; have := h.lt this.1; omega
  | f + 1, [], hl, k, hk => rfl
  | f + 1, i :: l, hl, k, hk => by
    have ih := h.beh_count (f + 1) l (fun j hj => hl j (List.mem_cons_of_mem _ hj)) k hk
    obtain ⟨h1, h2⟩ := hl i List.mem_cons_self
    have hi : i ≠ -2 := fun e => by rw [e, ne_two] at h1; cases h1
    have hi1 : i ≠ -1 := fun e => by rw [e, ne_root] at h1; cases h1
    have ik := h.beh_count f (kidsF u i) (fun j hj => by
      have hj1 := (mem_kids.1 hj).2.2
      have hji := kids_is hi hj
      have hr' : upAt u j ≠ -1 := by rw [hj1]; exact hi1
      have := (h.step j hji hr').2
      rw [hj1] at this
      exact ⟨hji, by omega⟩) k hk
    rw [h.kids_count _ i k hi (Or.inr h1) hk rfl] at ik
    have e : behF u (f + 1) (i :: l) = i :: (behF u f (kidsF u i) ++ behF u (f + 1) l) := by
      simp only [behF, List.flatMap_cons, List.cons_append]
    rw [e, List.count_cons, List.count_append, ih, ik, List.countP_cons]
    by_cases c : i = k
    · subst c
      have n1 : i ∉ ancs u i := fun hc => by have := (h.ancs_lt _ i h1 rfl _ hc).2; omega
      simp [subF, n1, hi1]
    · by_cases c2 : i ∈ ancs u k
      · simp [subF, c, c2]; omega
      · simp [subF, c, c2, hi1]
/-- All below one. -/
def belF (u : List Int) (i : Int) : List Int := ((List.range u.length).filter fun k => isF u (k : Nat) && decide (i ∈ ancs u (k : Nat))).map Int.ofNat
theorem mem_bel {u : List Int} {i k : Int} : k ∈ belF u i ↔ isF u k = true ∧ i ∈ ancs u k := by
  simp only [belF, List.mem_map, List.mem_filter, List.mem_range, Bool.and_eq_true, decide_eq_true_eq]
  constructor
  · rintro ⟨a, ⟨h1, h2⟩, rfl⟩; exact h2
  · rintro ⟨h1, h2⟩
    obtain ⟨a, b, c⟩ := isF_iff.1 h1
    have e : ((k.toNat : Nat) : Int) = k := by omega
    exact ⟨k.toNat, ⟨by omega, by rw [e]; exact ⟨h1, h2⟩⟩, e⟩
theorem bel_sorted (u : List Int) (i : Int) : (belF u i).Pairwise (· < ·) := by
  unfold belF
  refine List.Pairwise.map (R := fun a b => a < b) _ (fun a b h => Int.ofNat_lt.2 h) ?_
  exact List.Pairwise.filter _ List.pairwise_lt_range
def sortI (l : List Int) : List Int := l.mergeSort fun x y => decide (x ≤ y)
theorem sortI_perm {l l' : List Int} (h : l.Perm l') (hs : l'.Pairwise (· < ·)) : sortI l = l' := by
  refine List.Perm.eq_of_pairwise (le := fun a b : Int => a ≤ b) (fun a b _ _ h1 h2 => by omega) ?_ (hs.imp fun h => by omega) ((List.mergeSort_perm _ _).trans h)
  have := List.pairwise_mergeSort (le := fun x y : Int => decide (x ≤ y)) (fun a b c => by simp; omega) (fun a b => by simp; omega) l
  exact this.imp fun h => by simpa using h
theorem RkF.bel_perm {u : List Int} {r : Int → Nat} (h : RkF u r) {i : Int} (hi : isF u i = true) {f : Nat} (hf : u.length ≤ r i + 1 + f) : (behF u f (kidsF u i)).Perm (belF u i) := by
  have hi2 : i ≠ -2 := fun e => by rw [e, ne_two] at hi; cases hi
  have hi1 : i ≠ -1 := fun e => by rw [e, ne_root] at hi; cases hi
  refine List.perm_iff_count.2 fun k => ?_
  by_cases hk : isF u k = true
  · rw [h.beh_count f _ (fun j hj => by
      have hj1 := (mem_kids.1 hj).2.2
      have hji := kids_is hi2 hj
      have := (h.step j hji (by rw [hj1]; exact hi1)).2
      rw [hj1] at this
      exact ⟨hji, by omega⟩) k hk, h.kids_count _ i k hi2 (Or.inr hi) hk rfl]
    have nd : (belF u i).Nodup := (bel_sorted u i).imp fun h => by omega
    rw [nd.count]
    by_cases c : i ∈ ancs u k
    · rw [if_pos (Or.inr c), if_pos (mem_bel.2 ⟨hk, c⟩)]
    · rw [if_neg (by simp [hi1, c]), if_neg fun hc => c (mem_bel.1 hc).2]
  · rw [List.count_eq_zero_of_not_mem fun hc => hk (mem_bel.1 hc).1, List.count_eq_zero_of_not_mem fun hc => hk (beh_is f _ (fun j hj => kids_is hi2 hj) k hc)]
theorem RkF.bel_sort {u : List Int} {r : Int → Nat} (h : RkF u r) {i : Int} (hi : isF u i = true) {f : Nat} (hf : u.length ≤ r i + 1 + f) : sortI (behF u f (kidsF u i)) = belF u i := sortI_perm (h.bel_perm hi hf) (bel_sorted u i)
end Go.Proofs.Ytfcbhgiccgommaa.F10

namespace Go.Proofs.Ytfcbhgiccgommaa.F10
open Go Go.Proofs Go.Proofs.YtfcbhgiccgommaaAbs
variable [Base]
set_option maxRecDepth 100000
/-! ### What is done to a forest -/
theorem isF_no {u : List Int} {k : Int} (h : upAt u k = -2) : isF u k = false := by
  cases e : isF u k
  · rfl
  · exact absurd h (isF_iff.1 e).2.2
def setL (u ks : List Int) (v : Int) : List Int := ks.foldl (fun u k => u.set k.toNat v) u
theorem setL_len (v : Int) : ∀ (ks u : List Int), (setL u ks v).length = u.length
  | [], u => rfl
  | k :: ks, u => by
    have := setL_len v ks (u.set k.toNat v)
    rw [List.length_set] at this
    exact this
theorem upAt_set {u : List Int} {i x v : Int} (h0 : 0 ≤ i) (h1 : i < u.length) (x0 : 0 ≤ x) : upAt (u.set i.toNat v) x = if x = i then v else upAt u x := by
  unfold upAt
  rw [List.getD_eq_getElem?_getD, List.getElem?_set, List.getD_eq_getElem?_getD]
  by_cases c : x = i
  · subst c
    rw [if_pos rfl, if_pos rfl, if_pos (by omega)]; rfl
  · rw [if_neg c, if_neg (by omega)]
theorem upAt_setL (v : Int) {x : Int} (x0 : 0 ≤ x) : ∀ (ks u : List Int), (∀ k, k ∈ ks → 0 ≤ k ∧ k < u.length) → upAt (setL u ks v) x = if x ∈ ks then v else upAt u x
  | [], u, h => rfl
  | k :: ks, u, h => by
    obtain ⟨h1, h2⟩ := h k List.mem_cons_self
    have := upAt_setL v x0 ks (u.set k.toNat v) fun j hj => by rw [List.length_set]; exact h j (List.mem_cons_of_mem _ hj)
    rw [show setL u (k :: ks) v = setL (u.set k.toNat v) ks v from rfl, this, upAt_set h1 h2 x0]
    by_cases c : x ∈ ks
    · simp [c]
    · by_cases c2 : x = k <;> simp [c, c2]
theorem ext_upAt {u w : List Int} (hl : u.length = w.length) (h : ∀ x : Int, 0 ≤ x → x < u.length → upAt u x = upAt w x) : u = w := by
  refine List.ext_getElem hl fun i h1 h2 => ?_
  have := h i (by omega) (by omega)
  rwa [upAt_nat h1, upAt_nat h2] at this
def addF (u : List Int) (i k : Int) : List Int := u.set i.toNat k
def dropF (u : List Int) (i : Int) : List Int := (setL u (kidsF u i) (upAt u i)).set i.toNat (-2)
def moveF (u : List Int) (i k : Int) : List Int := ((setL u (kidsF u i) k).set k.toNat (upAt u i)).set i.toNat (-2)
def pruneF (u : List Int) (i : Int) : List Int := setL u (belF u i) (-2)
@[simp] theorem addF_len (u : List Int) (i k : Int) : (addF u i k).length = u.length := by simp [addF]
@[simp] theorem dropF_len (u : List Int) (i : Int) : (dropF u i).length = u.length := by simp [dropF, setL_len]
@[simp] theorem moveF_len (u : List Int) (i k : Int) : (moveF u i k).length = u.length := by simp [moveF, setL_len]
@[simp] theorem pruneF_len (u : List Int) (i : Int) : (pruneF u i).length = u.length := by simp [pruneF, setL_len]
theorem kids_in {u : List Int} {i : Int} : ∀ k, k ∈ kidsF u i → 0 ≤ k ∧ k < u.length := fun k h => ⟨(mem_kids.1 h).1, (mem_kids.1 h).2.1⟩
theorem bel_in {u : List Int} {i : Int} : ∀ k, k ∈ belF u i → 0 ≤ k ∧ k < u.length := fun k h => ⟨(isF_iff.1 (mem_bel.1 h).1).1, (isF_iff.1 (mem_bel.1 h).1).2.1⟩
section
variable {u : List Int} {r : Int → Nat} {i k x : Int}
theorem upAt_add (h0 : 0 ≤ i) (h1 : i < u.length) (x0 : 0 ≤ x) : upAt (addF u i k) x = if x = i then k else upAt u x := upAt_set h0 h1 x0
theorem upAt_drop (h0 : 0 ≤ i) (h1 : i < u.length) (x0 : 0 ≤ x) (x1 : x < u.length) : upAt (dropF u i) x = if x = i then -2 else if upAt u x = i then upAt u i else upAt u x := by
  unfold dropF
  rw [upAt_set h0 (by rw [setL_len]; exact h1) x0, upAt_setL _ x0 _ _ kids_in]
  by_cases c : upAt u x = i
  · rw [if_pos (mem_kids.2 ⟨x0, x1, c⟩), if_pos c]
  · rw [if_neg (fun h => c (mem_kids.1 h).2.2), if_neg c]
theorem upAt_move (h0 : 0 ≤ i) (h1 : i < u.length) (k0 : 0 ≤ k) (k1 : k < u.length) (x0 : 0 ≤ x) (x1 : x < u.length) : upAt (moveF u i k) x = if x = i then -2 else if x = k then upAt u i else if upAt u x = i then k else upAt u x := by
  unfold moveF
  rw [upAt_set h0 (by rw [List.length_set, setL_len]; exact h1) x0, upAt_set k0 (by rw [setL_len]; exact k1) x0, upAt_setL _ x0 _ _ kids_in]
  by_cases c : upAt u x = i
  · rw [if_pos (mem_kids.2 ⟨x0, x1, c⟩), if_pos c]
  · rw [if_neg (fun h => c (mem_kids.1 h).2.2), if_neg c]
theorem upAt_prune (x0 : 0 ≤ x) : upAt (pruneF u i) x = if isF u x = true ∧ i ∈ ancs u x then -2 else upAt u x := by
  unfold pruneF
  rw [upAt_setL _ x0 _ _ bel_in]
  by_cases c : x ∈ belF u i
  · rw [if_pos c, if_pos (mem_bel.1 c)]
  · rw [if_neg c, if_neg (fun h => c (mem_bel.2 h))]
theorem isF_add (h0 : 0 ≤ i) (h1 : i < u.length) (hk : k ≠ -2) : isF (addF u i k) x = true ↔ x = i ∨ isF u x = true := by
  rw [isF_iff, isF_iff, addF_len]
  constructor
  · rintro ⟨a, b, c⟩
    rw [upAt_add h0 h1 a] at c
    by_cases e : x = i
    · exact Or.inl e
    · rw [if_neg e] at c; exact Or.inr ⟨a, b, c⟩
  · rintro (rfl | ⟨a, b, c⟩)
    · exact ⟨h0, h1, by rw [upAt_add h0 h1 h0, if_pos rfl]; exact hk⟩
    · refine ⟨a, b, ?_⟩
      rw [upAt_add h0 h1 a]
      split
      · exact hk
      · exact c
theorem RkF.add (h : RkF u r) (h0 : 0 ≤ i) (h1 : i < u.length) (he : upAt u i = -2) (hk : k = -1 ∨ isF u k = true) : RkF (addF u i k) (fun x => if x = i then (if k = -1 then 0 else r k + 1) else r x) := by
  have hk2 : k ≠ -2 := by
    rintro rfl
    rcases hk with hk | hk
    · omega
    · rw [ne_two] at hk; cases hk
  have hif : isF u i = false := isF_no he
  refine ⟨fun x hx hr => ?_, fun x hx hr => ?_⟩
  · have x0 := (isF_iff.1 hx).1
    rw [upAt_add h0 h1 x0] at hr
    by_cases c : x = i
    · rw [if_pos c] at hr; simp [c, hr]
    · rw [if_neg c] at hr
      simp only [if_neg c]
      exact h.root x ((isF_add h0 h1 hk2).1 hx |>.resolve_left c) hr
  · have x0 := (isF_iff.1 hx).1
    rw [upAt_add h0 h1 x0] at hr ⊢
    rw [isF_add h0 h1 hk2]
    by_cases c : x = i
    · rw [if_pos c] at hr
      have hk' := hk.resolve_left hr
      have nki : k ≠ i := fun e => by rw [e, hif] at hk'; cases hk'
      simp [c, hr, hk', nki]
    · have hxu := (isF_add h0 h1 hk2).1 hx |>.resolve_left c
      rw [if_neg c] at hr
      obtain ⟨s1, s2⟩ := h.step x hxu hr
      have nki : upAt u x ≠ i := fun e => by rw [e, hif] at s1; cases s1
      simp [c, s1, s2, nki]
theorem add_drop (h : RkF u r) (h0 : 0 ≤ i) (h1 : i < u.length) (he : upAt u i = -2) (hki : k ≠ i) : dropF (addF u i k) i = u := by
  refine ext_upAt (by simp) fun x x0 x1 => ?_
  rw [dropF_len, addF_len] at x1
  rw [upAt_drop h0 (by simpa using h1) x0 (by simpa using x1), upAt_add h0 h1 x0, upAt_add h0 h1 h0, if_pos rfl]
  by_cases c : x = i
  · rw [if_pos c, c, he]
  · rw [if_neg c, if_neg c, if_neg]
    intro e
    by_cases c2 : upAt u x = -1
    · omega
    · have hx : isF u x = true := isF_iff.2 ⟨x0, x1, by rw [e]; rintro rfl; omega⟩
      have := (h.step x hx c2).1
      rw [e] at this
      exact (isF_iff.1 this).2.2 he
theorem isF_drop (hi : isF u i = true) : isF (dropF u i) x = true ↔ isF u x = true ∧ x ≠ i := by
  obtain ⟨h0, h1, h2⟩ := isF_iff.1 hi
  rw [isF_iff, isF_iff, dropF_len]
  constructor
  · rintro ⟨a, b, c⟩
    rw [upAt_drop h0 h1 a b] at c
    by_cases e : x = i
    · rw [if_pos e] at c; exact absurd rfl c
    · rw [if_neg e] at c
      refine ⟨⟨a, b, ?_⟩, e⟩
      intro h3
      rw [if_neg (by omega)] at c
      exact c h3
  · rintro ⟨⟨a, b, c⟩, e⟩
    refine ⟨a, b, ?_⟩
    rw [upAt_drop h0 h1 a b, if_neg e]
    split
    · exact h2
    · exact c
theorem RkF.self (h : RkF u r) (hi : isF u i = true) : i ∉ ancs u i := fun hc => by have := (h.ancs_lt _ i hi rfl _ hc).2; omega
theorem RkF.drop (h : RkF u r) (hi : isF u i = true) : RkF (dropF u i) (fun x => if i ∈ ancs u x then r x - 1 else r x) := by
  obtain ⟨h0, h1, h2⟩ := isF_iff.1 hi
  refine ⟨fun x hx hr => ?_, fun x hx hr => ?_⟩
  · obtain ⟨hxu, hxi⟩ := (isF_drop hi).1 hx
    obtain ⟨x0, x1, _⟩ := isF_iff.1 hxu
    rw [upAt_drop h0 h1 x0 x1, if_neg hxi] at hr
    by_cases c : upAt u x = i
    · rw [if_pos c] at hr
      have hr' : upAt u x ≠ -1 := by omega
      have := (h.step x hxu hr').2
      have e1 := h.root i hi hr
      have : i ∈ ancs u x := by rw [h.ancs_step hxu hr', c]; exact List.mem_cons_self
      simp only [if_pos this]
      rw [c] at *
      omega
    · rw [if_neg c] at hr
      rw [h.ancs_root hxu hr, if_neg (by simp)]
      exact h.root x hxu hr
  · obtain ⟨hxu, hxi⟩ := (isF_drop hi).1 hx
    obtain ⟨x0, x1, _⟩ := isF_iff.1 hxu
    rw [upAt_drop h0 h1 x0 x1, if_neg hxi] at hr ⊢
    by_cases c : upAt u x = i
    · rw [if_pos c] at hr ⊢
      have hr' : upAt u x ≠ -1 := by omega
      have s2 := (h.step x hxu hr').2
      obtain ⟨t1, t2⟩ := h.step i hi hr
      have hi' : i ∈ ancs u x := by rw [h.ancs_step hxu hr', c]; exact List.mem_cons_self
      have hn : i ∉ ancs u (upAt u i) := fun hc => by have := (h.ancs_lt _ _ t1 rfl _ hc).2; omega
      have hne : upAt u i ≠ i := fun e => by rw [e] at t2; omega
      refine ⟨(isF_drop hi).2 ⟨t1, hne⟩, ?_⟩
      simp only [if_pos hi', if_neg hn]
      rw [c] at s2
      omega
    · rw [if_neg c] at hr ⊢
      obtain ⟨s1, s2⟩ := h.step x hxu hr
      refine ⟨(isF_drop hi).2 ⟨s1, c⟩, ?_⟩
      have e : i ∈ ancs u x ↔ i ∈ ancs u (upAt u x) := by
        rw [h.ancs_step hxu hr, List.mem_cons]
        constructor
        · rintro (e | e)
          · exact absurd e.symm c
          · exact e
        · exact Or.inr
      by_cases c2 : i ∈ ancs u (upAt u x)
      · have := (h.ancs_lt _ _ s1 rfl _ c2).2
        simp only [if_pos (e.2 c2), if_pos c2]
        omega
      · simp only [if_neg (fun hc => c2 (e.1 hc)), if_neg c2]
        exact s2
theorem isF_move (hi : isF u i = true) (k0 : 0 ≤ k) (k1 : k < u.length) (hk : upAt u k = -2) : isF (moveF u i k) x = true ↔ x = k ∨ isF u x = true ∧ x ≠ i := by
  obtain ⟨h0, h1, h2⟩ := isF_iff.1 hi
  have nki : k ≠ i := fun e => by rw [e] at hk; exact h2 hk
  rw [isF_iff, isF_iff, moveF_len]
  constructor
  · rintro ⟨a, b, c⟩
    rw [upAt_move h0 h1 k0 k1 a b] at c
    by_cases e : x = i
    · rw [if_pos e] at c; exact absurd rfl c
    · rw [if_neg e] at c
      by_cases e2 : x = k
      · exact Or.inl e2
      · rw [if_neg e2] at c
        refine Or.inr ⟨⟨a, b, ?_⟩, e⟩
        intro h3
        rw [if_neg (by omega)] at c
        exact c h3
  · rintro (rfl | ⟨⟨a, b, c⟩, e⟩)
    · exact ⟨k0, k1, by rw [upAt_move h0 h1 k0 k1 k0 k1, if_neg nki, if_pos rfl]; exact h2⟩
    · refine ⟨a, b, ?_⟩
      rw [upAt_move h0 h1 k0 k1 a b, if_neg e]
      split
      · exact h2
      · split
        · omega
        · exact c
theorem RkF.move (h : RkF u r) (hi : isF u i = true) (k0 : 0 ≤ k) (k1 : k < u.length) (hk : upAt u k = -2) : RkF (moveF u i k) (fun x => if x = k then r i else r x) := by
  obtain ⟨h0, h1, h2⟩ := isF_iff.1 hi
  have nki : k ≠ i := fun e => by rw [e] at hk; exact h2 hk
  have nk : isF u k = false := isF_no hk
  have hm := fun x => isF_move (x := x) hi k0 k1 hk
  refine ⟨fun x hx hr => ?_, fun x hx hr => ?_⟩
  · obtain ⟨x0, x1, _⟩ := isF_iff.1 hx
    rw [moveF_len] at x1
    rw [upAt_move h0 h1 k0 k1 x0 x1] at hr
    rcases (hm x).1 hx with rfl | ⟨hxu, hxi⟩
    · rw [if_neg nki, if_pos rfl] at hr
      simp only [if_pos]
      exact h.root i hi hr
    · have hxk : x ≠ k := fun e => by rw [e, nk] at hxu; cases hxu
      rw [if_neg hxi, if_neg hxk] at hr
      simp only [if_neg hxk]
      by_cases c : upAt u x = i
      · rw [if_pos c] at hr; omega
      · rw [if_neg c] at hr; exact h.root x hxu hr
  · obtain ⟨x0, x1, _⟩ := isF_iff.1 hx
    rw [moveF_len] at x1
    rw [upAt_move h0 h1 k0 k1 x0 x1] at hr ⊢
    rcases (hm x).1 hx with rfl | ⟨hxu, hxi⟩
    · rw [if_neg nki, if_pos rfl] at hr ⊢
      obtain ⟨s1, s2⟩ := h.step i hi hr
      have n1 : upAt u i ≠ i := fun e => by rw [e] at s2; omega
      have n2 : upAt u i ≠ x := fun e => by rw [e, nk] at s1; cases s1
      refine ⟨(hm _).2 (Or.inr ⟨s1, n1⟩), ?_⟩
      simp only [if_neg n2, if_pos]
      exact s2
    · have hxk : x ≠ k := fun e => by rw [e, nk] at hxu; cases hxu
      rw [if_neg hxi, if_neg hxk] at hr ⊢
      simp only [if_neg hxk]
      by_cases c : upAt u x = i
      · rw [if_pos c] at hr ⊢
        have hr' : upAt u x ≠ -1 := by omega
        have := (h.step x hxu hr').2
        rw [c] at this
        refine ⟨(hm _).2 (Or.inl rfl), ?_⟩
        simp only [if_pos]
        exact this
      · rw [if_neg c] at hr ⊢
        obtain ⟨s1, s2⟩ := h.step x hxu hr
        have n2 : upAt u x ≠ k := fun e => by rw [e, nk] at s1; cases s1
        refine ⟨(hm _).2 (Or.inr ⟨s1, c⟩), ?_⟩
        simp only [if_neg n2]
        exact s2
theorem move_move (h : RkF u r) (hi : isF u i = true) (k0 : 0 ≤ k) (k1 : k < u.length) (hk : upAt u k = -2) : moveF (moveF u i k) k i = u := by
  obtain ⟨h0, h1, h2⟩ := isF_iff.1 hi
  have nki : k ≠ i := fun e => by rw [e] at hk; exact h2 hk
  have nk : isF u k = false := isF_no hk
  have self : upAt u i ≠ i := fun e => by have := (h.step i hi (by omega)).2; rw [e] at this; omega
  refine ext_upAt (by simp) fun x x0 x1 => ?_
  rw [moveF_len, moveF_len] at x1
  rw [upAt_move k0 (by simpa using k1) h0 (by simpa using h1) x0 (by simpa using x1), upAt_move h0 h1 k0 k1 k0 k1, upAt_move h0 h1 k0 k1 x0 x1, if_neg nki, if_pos rfl]
  by_cases c : x = k
  · rw [if_pos c, c, hk]
  rw [if_neg c]
  by_cases c1 : x = i
  · rw [if_pos c1, c1]
  rw [if_neg c1, if_neg c1, if_neg c]
  by_cases c2 : upAt u x = i
  · rw [if_pos c2, if_pos rfl, c2]
  rw [if_neg c2, if_neg]
  intro e
  have hx : isF u x = true := isF_iff.2 ⟨x0, x1, by rw [e]; omega⟩
  have := (h.step x hx (by omega)).1
  rw [e, nk] at this; cases this
theorem move_ancs (h : RkF u r) (hi : isF u i = true) (k0 : 0 ≤ k) (k1 : k < u.length) (hk : upAt u k = -2) : ∀ (d : Nat) (x : Int), isF u x = true → x ≠ i → r x = d → (k ∈ ancs (moveF u i k) x ↔ i ∈ ancs u x)
  | d, x, hxu, hxi, hd => by
    obtain ⟨h0, h1, h2⟩ := isF_iff.1 hi
    obtain ⟨x0, x1, x2⟩ := isF_iff.1 hxu
    have nk : isF u k = false := isF_no hk
    have hxk : x ≠ k := fun e => by rw [e, nk] at hxu; cases hxu
    have hm := h.move hi k0 k1 hk
    have hx : isF (moveF u i k) x = true := (isF_move hi k0 k1 hk).2 (Or.inr ⟨hxu, hxi⟩)
    have e := upAt_move h0 h1 k0 k1 x0 x1
    rw [if_neg hxi, if_neg hxk] at e
    by_cases c : upAt u x = i
    · rw [if_pos c] at e
      rw [hm.ancs_step hx (by omega), h.ancs_step hxu (by omega), e, c]
      simp
    · rw [if_neg c] at e
      by_cases hr : upAt u x = -1
      · rw [hm.ancs_root hx (by omega), h.ancs_root hxu hr]
        simp
      · obtain ⟨s1, s2⟩ := h.step x hxu hr
        have n2 : upAt u x ≠ k := fun e => by rw [e, nk] at s1; cases s1
        rw [hm.ancs_step hx (by omega), h.ancs_step hxu hr, e, List.mem_cons, List.mem_cons]
        cases d with
        | zero => omega
        | succ d =>
          rw [move_ancs h hi k0 k1 hk d _ s1 c (by omega)]
          simp [fun e => n2 (Eq.symm e), fun e => c (Eq.symm e), Ne.symm c, Ne.symm n2]
theorem move_bel (h : RkF u r) (hi : isF u i = true) (k0 : 0 ≤ k) (k1 : k < u.length) (hk : upAt u k = -2) : belF (moveF u i k) k = belF u i := by
  have nk : isF u k = false := isF_no hk
  have hm := h.move hi k0 k1 hk
  unfold belF
  rw [moveF_len]
  congr 1
  refine List.filter_congr fun x hx => ?_
  have hmx : isF (moveF u i k) x = true ↔ (x : Int) = k ∨ isF u x = true ∧ (x : Int) ≠ i := isF_move hi k0 k1 hk
  rw [Bool.eq_iff_iff]
  simp only [Bool.and_eq_true, decide_eq_true_eq]
  constructor
  · rintro ⟨a, b⟩
    rcases hmx.1 a with e | ⟨h1, h2⟩
    · rw [e] at b a; exact absurd b (hm.self a)
    · exact ⟨h1, (move_ancs h hi k0 k1 hk _ _ h1 h2 rfl).1 b⟩
  · rintro ⟨a, b⟩
    have h2 : (x : Int) ≠ i := fun e => by rw [e] at b a; exact h.self a b
    exact ⟨hmx.2 (Or.inr ⟨a, h2⟩), (move_ancs h hi k0 k1 hk _ _ a h2 rfl).2 b⟩
theorem isF_prune : isF (pruneF u i) x = true ↔ isF u x = true ∧ i ∉ ancs u x := by
  rw [isF_iff, pruneF_len]
  constructor
  · rintro ⟨a, b, c⟩
    rw [upAt_prune a] at c
    split at c
    · exact absurd rfl c
    · rename_i hc
      have hx := isF_iff.2 ⟨a, b, c⟩
      exact ⟨hx, fun h => hc ⟨hx, h⟩⟩
  · rintro ⟨a, b⟩
    obtain ⟨a1, a2, a3⟩ := isF_iff.1 a
    exact ⟨a1, a2, by rw [upAt_prune a1, if_neg (fun h => b h.2)]; exact a3⟩
theorem RkF.prune (h : RkF u r) : RkF (pruneF u i) r := by
  refine ⟨fun x hx hr => ?_, fun x hx hr => ?_⟩
  · obtain ⟨a, b⟩ := isF_prune.1 hx
    rw [upAt_prune (isF_iff.1 a).1, if_neg (fun h => b h.2)] at hr
    exact h.root x a hr
  · obtain ⟨a, b⟩ := isF_prune.1 hx
    rw [upAt_prune (isF_iff.1 a).1, if_neg (fun h => b h.2)] at hr ⊢
    obtain ⟨s1, s2⟩ := h.step x a hr
    refine ⟨isF_prune.2 ⟨s1, fun hc => b ?_⟩, s2⟩
    rw [h.ancs_step a hr]
    exact List.mem_cons_of_mem _ hc
theorem prune_kids (h : RkF u r) (hi : isF u i = true) : kidsF (pruneF u i) i = [] := by
  refine List.eq_nil_iff_forall_not_mem.2 fun x hx => ?_
  obtain ⟨h0, h1, h2⟩ := isF_iff.1 hi
  obtain ⟨a, b, c⟩ := mem_kids.1 hx
  rw [pruneF_len] at b
  rw [upAt_prune a] at c
  split at c
  · omega
  · rename_i hc
    have hxu : isF u x = true := isF_iff.2 ⟨a, b, by omega⟩
    refine hc ⟨hxu, ?_⟩
    rw [h.ancs_step hxu (by omega), c]
    exact List.mem_cons_self
end
/-! ### All, each ahead of what came of it -/
def ordF (u : List Int) : List Int := behF u u.length (kidsF u (-1))
theorem roots_is {u : List Int} : ∀ j, j ∈ kidsF u (-1) → isF u j = true := fun j hj => kids_is (by omega) hj
theorem RkF.ord_perm {u : List Int} {r : Int → Nat} (h : RkF u r) : (ordF u).Perm (((List.range u.length).filter fun k => isF u (k : Nat)).map Int.ofNat) := by
  refine List.perm_iff_count.2 fun k => ?_
  have nd : (((List.range u.length).filter fun k => isF u (k : Nat)).map Int.ofNat).Nodup := by
    refine List.Pairwise.map (R := fun a b => a ≠ b) _ (fun a b h e => h (Int.ofNat.inj e)) ?_
    exact List.Pairwise.filter _ List.nodup_range
  rw [nd.count]
  by_cases hk : isF u k = true
  · unfold ordF
    rw [h.beh_count _ _ (fun j hj => ⟨roots_is j hj, by omega⟩) k hk, h.kids_count _ (-1) k (by omega) (Or.inl rfl) hk rfl, if_pos (Or.inl rfl), if_pos]
    obtain ⟨a, b, c⟩ := isF_iff.1 hk
    have e : ((k.toNat : Nat) : Int) = k := by omega
    simp only [List.mem_map, List.mem_filter, List.mem_range]
    exact ⟨k.toNat, ⟨by omega, by rw [e]; exact hk⟩, e⟩
  · unfold ordF
    rw [List.count_eq_zero_of_not_mem (fun hc => hk (beh_is _ _ roots_is k hc)), if_neg]
    intro hc
    simp only [List.mem_map, List.mem_filter, List.mem_range] at hc
    obtain ⟨a, ⟨_, h2⟩, rfl⟩ := hc
    exact hk h2
/-- Each parent is told ahead. -/
def aheadF (u : List Int) : List Int → List Int → Prop
  | _, [] => True
  | S, x :: l => (upAt u x = -1 ∨ upAt u x ∈ S) ∧ aheadF u (x :: S) l
theorem ahead_mono {u : List Int} : ∀ {l S S' : List Int}, (∀ x, x ∈ S → x ∈ S') → aheadF u S l → aheadF u S' l
  | [], S, S', h, _ => trivial
  | x :: l, S, S', h, ⟨a, b⟩ => ⟨a.imp id (h _), ahead_mono (fun y hy => by
    rcases List.mem_cons.1 hy with rfl | hy
    · exact List.mem_cons_self
    · exact List.mem_cons_of_mem _ (h y hy)) b⟩
theorem ahead_append {u : List Int} : ∀ {l l' S : List Int}, aheadF u S l → aheadF u S l' → aheadF u S (l ++ l')
  | [], l', S, _, h => h
  | x :: l, l', S, ⟨a, b⟩, h => ⟨a, ahead_append b (ahead_mono (fun y hy => List.mem_cons_of_mem _ hy) h)⟩
theorem beh_ahead {u : List Int} : ∀ (f : Nat) (l S : List Int), (∀ j, j ∈ l → upAt u j = -1 ∨ upAt u j ∈ S) → aheadF u S (behF u f l)
  | 0, l, S, h => trivial
  | f + 1, [], S, h => trivial
  | f + 1, i :: l, S, h => by
    have e : behF u (f + 1) (i :: l) = (i :: behF u f (kidsF u i)) ++ behF u (f + 1) l := by
      simp only [behF, List.flatMap_cons]
    rw [e]
    refine ahead_append ⟨h i List.mem_cons_self, beh_ahead f _ _ fun j hj => Or.inr ?_⟩ (beh_ahead (f + 1) l S fun j hj => h j (List.mem_cons_of_mem _ hj))
    rw [(mem_kids.1 hj).2.2]
    exact List.mem_cons_self
theorem ord_ahead (u : List Int) : aheadF u [] (ordF u) := beh_ahead _ _ _ fun j hj => Or.inl (mem_kids.1 hj).2.2
end Go.Proofs.Ytfcbhgiccgommaa.F10

namespace Go.Proofs.Ytfcbhgiccgommaa.F10
open Go Go.Proofs Go.Proofs.YtfcbhgiccgommaaAbs
variable [Base]
set_option maxHeartbeats 4000000
set_option maxRecDepth 100000
/-! ### The forest's functions that read alone -/
abbrev fv (va : Value) : Value := .agg #[va]
theorem take_snoc {α : Type} (zs : List α) (i : Nat) (h : i < zs.length) : zs.take (i + 1) = zs.take i ++ [zs[i]] := by rw [List.take_add_one, List.getElem?_eq_getElem h]; rfl
theorem forest_is (va : Value) (u : List Int) (i : Int) (g : AMem) (n : Nat) (hl : u.length ≤ 100000) (ha : rdI g va u) : FnC Try.prog f_forest_Forest_is [fv va, .int .i64 i] g n (fun _ => False) (.bool (isF u i)) g n := by
  refine fnC_of_rwp t_forest_Forest_is hm rfl fun hdom => ?_
  obtain ⟨a, ea, hva⟩ := ha.form
  have k1 := (Kept.refl hdom).new (.row [va] true)
  by_cases c1 : 0 ≤ i
  case neg =>
    rw [show isF u i = false by simp [isF, c1]]
    simp (maxSteps := 1000000) (disch := first | assumption | omega | rfl | decide | simp only [fitsR, Bool.and_self]) [↓rules, rules, ↓rulesDp, rulesDq, lit_u64, Int.ofNat_inj, stops, rc_forest_Forest_is, q_int, q_bool, q_S_int, q_forest_Forest, hva, c1]
    exact done_q hdom (hva ▸ k1) rfl rfl
  by_cases c2 : i < (u.length : Int)
  case neg =>
    rw [show isF u i = false by simp [isF, c2]]
    simp (maxSteps := 1000000) (disch := first | assumption | omega | rfl | decide | simp only [fitsR, Bool.and_self]) [↓rules, rules, ↓rulesDp, rulesDq, lit_u64, Int.ofNat_inj, stops, rc_forest_Forest_is, q_int, q_bool, q_S_int, q_forest_Forest, hva, c1, c2]
    exact done_q hdom (hva ▸ k1) rfl rfl
  obtain ⟨k, rfl⟩ : ∃ k : Nat, i = k := ⟨i.toNat, by omega⟩
  have hk : k < u.length := by omega
  obtain ⟨b1, o1, h1, _, h2⟩ := ha.one hk
  have e1 := h2 _ (k1.ext hdom) Try.prog _ ta_int
  rw [h1] at e1 k1
  simp (maxSteps := 1000000) (disch := first | assumption | omega | rfl | decide | simp only [fitsR, Bool.and_self]) [↓rules, rules, ↓rulesDp, rulesDq, lit_u64, Int.ofNat_inj, stops, rc_forest_Forest_is, q_int, q_bool, q_S_int, q_forest_Forest, h1, c1, c2, e1]
  refine done_q hdom k1 rfl ?_
  rw [show isF u (k : Int) = !decide (u[k] = -2) by simp [isF, upAt_nat hk, hk]]
  rfl
theorem forest_Good (va : Value) (u : List Int) (g : AMem) (n : Nat) (hl : u.length ≤ 100000) (ha : rdI g va u) : FnC Try.prog f_forest_Good [fv va] g n (fun _ => False) (.bool (goodF u)) g n := by
  refine fnC_of_rwp t_forest_Good hm rfl fun hdom => ?_
  obtain ⟨a, ea, hva⟩ := ha.form
  have k1 := (Kept.refl hdom).new (.row [va] true)
  have ha1 := ha.ext (k1.ext hdom)
  unfold goodF
  by_cases c1 : (96 : Int) < u.length
  case pos =>
    rw [decide_eq_false (show ¬ u.length ≤ 96 by omega), Bool.false_and]
    simp (maxSteps := 1000000) (disch := first | assumption | omega | rfl | decide | simp only [fitsR, Bool.and_self]) [↓rules, rules, ↓rulesDp, rulesDq, lit_u64, Int.ofNat_inj, stops, rc_forest_Good, q_int, q_bool, q_S_int, q_forest_Forest, hva, c1]
    exact done_q hdom (hva ▸ k1) rfl rfl
  rw [decide_eq_true (show u.length ≤ 96 by omega), Bool.true_and]
  simp (maxSteps := 1000000) (disch := first | assumption | omega | rfl | decide | simp only [fitsR, Bool.and_self]) [↓rules, rules, ↓rulesDp, rulesDq, lit_u64, Int.ofNat_inj, stops, rc_forest_Good, q_int, q_bool, q_S_int, q_forest_Forest, hva, c1]
  rw [← hva]
  have hG0 : gset g n (some (.row [va] true)) n = some (.row [va] true) := by simp [gset]
  generalize hG : gset g n (some (.row [va] true)) = G at *
  refine rwp_loop (fun j l g' n' => ∃ i, j = u.length - i ∧ i ≤ u.length ∧ g' = G ∧ n' = n + 1 ∧ okUp u = (u.drop i).all (upOk u) ∧ l = [(1, .pointer (some ⟨n, 0, none⟩)), (13, va), (14, .int .i64 u.length), (15, .int .i64 i)]) ?_ (k := u.length) ?_
  · rintro j l g' n' ⟨i, rfl, hi, rfl, rfl, he, rfl⟩
    by_cases hlt : (i : Int) < (u.length : Int)
    case neg =>
      have : i = u.length := by omega
      subst this
      rw [List.drop_length] at he
      simp (maxSteps := 1000000) (disch := first | assumption | omega | rfl | decide | simp only [fitsR, Bool.and_self]) [↓rules, rules, ↓rulesDp, rulesDq, lit_u64, Int.ofNat_inj, stops, rc_forest_Goodl0, q_int, q_bool, q_S_int, q_forest_Forest, hlt, hG0, hva]
      have hw : okUp u = true := he
      rw [hw, Bool.true_and]
      refine rwp_loop (fun j l g2 n2 => ∃ i, j = u.length - i ∧ i ≤ u.length ∧ g2 = g' ∧ n2 = n + 1 ∧ (List.range i).all (fun i => walkF u (u.length + 1) i) = true ∧ l = [(1, .pointer (some ⟨n, 0, none⟩)), (34, .int .i64 u.length), (35, .int .i64 i)]) ?_ (k := u.length) ?_
      · rintro j l g2 n2 ⟨i, rfl, hi, rfl, rfl, hr, rfl⟩
        by_cases hlt : (i : Int) < (u.length : Int)
        case neg =>
          have : i = u.length := by omega
          subst this
          simp (maxSteps := 1000000) (disch := first | assumption | omega | rfl | decide | simp only [fitsR, Bool.and_self]) [↓rules, rules, ↓rulesDp, rulesDq, lit_u64, Int.ofNat_inj, stops, rc_forest_Goodl2, q_int, q_bool, q_S_int, q_forest_Forest, hlt]
          refine done_q hdom k1 rfl ?_
          rw [hr]; rfl
        simp (maxSteps := 1000000) (disch := first | assumption | omega | rfl | decide | simp only [fitsR, Bool.and_self]) [↓rules, rules, ↓rulesDp, rulesDq, lit_u64, Int.ofNat_inj, stops, rc_forest_Goodl2, q_int, q_bool, q_S_int, q_forest_Forest, hlt]
        refine rwp_loop (fun j l g3 n3 => ∃ (s : Nat) (a : Int), j = u.length + 2 - s ∧ s ≤ u.length + 1 ∧ g3 = g2 ∧ n3 = n + 1 ∧ walkF u (u.length + 1) i = walkF u (u.length + 1 - s) a ∧ l = [(1, .pointer (some ⟨n, 0, none⟩)), (6, .int .i64 s), (7, .int .i64 a), (34, .int .i64 u.length), (35, .int .i64 i)]) ?_ (k := u.length + 2) ?_
        · rintro j l g3 n3 ⟨s, a, rfl, hs, rfl, rfl, hwk, rfl⟩
          simp (maxSteps := 1000000) (disch := first | assumption | omega | rfl | decide | simp only [fitsR, Bool.and_self]) [↓rules, rules, ↓rulesDp, rulesDq, lit_u64, Int.ofNat_inj, stops, rc_forest_Goodl1, q_int, q_bool, q_S_int, q_forest_Forest, hG0]
          refine rcall_quiet rfl (forest_is va u _ _ _ hl ha1) ?_
          cases c4 : isF u a
          · have w1 : IntKind.i64.wrap ((i : Int) + 1) = ((i + 1 : Nat) : Int) := by rw [wrap_i64 (by omega) (by omega)]; omega
            simp (maxSteps := 1000000) (disch := first | assumption | omega | rfl | decide | simp only [fitsR, Bool.and_self]) [↓rules, rules, ↓rulesDp, rulesDq, lit_u64, Int.ofNat_inj, stops, q_int, q_bool, q_S_int, q_forest_Forest, w1]
            have hwi : walkF u (u.length + 1) i = true := by
              rw [hwk]
              cases u.length + 1 - s <;> simp [walkF, c4]
            exact ⟨u.length - (i + 1), by omega, i + 1, rfl, by omega, fun x hx => by
              rcases Nat.lt_or_eq_of_le (Nat.le_of_lt_succ hx) with h | rfl
              · exact List.all_eq_true.1 hr x (List.mem_range.2 h)
              · exact hwi, by omega⟩
          · by_cases c5 : (u.length : Int) < s
            · simp (maxSteps := 1000000) (disch := first | assumption | omega | rfl | decide | simp only [fitsR, Bool.and_self]) [↓rules, rules, ↓rulesDp, rulesDq, lit_u64, Int.ofNat_inj, stops, q_int, q_bool, q_S_int, q_forest_Forest, c5, hG0, hva]
              refine done_q hdom k1 rfl ?_
              have hwi : walkF u (u.length + 1) i = false := by
                rw [hwk, show u.length + 1 - s = 0 by omega]
                simp [walkF, c4]
              have : ((List.range u.length).all fun i => walkF u (u.length + 1) i) = false := by
                rw [List.all_eq_false]
                exact ⟨i, List.mem_range.2 (by omega), by simp [hwi]⟩
              rw [this]; rfl
            · obtain ⟨a0, a1, a2⟩ := isF_iff.1 c4
              obtain ⟨q, rfl⟩ : ∃ q : Nat, a = q := ⟨a.toNat, by omega⟩
              have hq : q < u.length := by omega
              obtain ⟨b1, o1, h1, _, h2⟩ := ha1.one hq
              have e2 := h2 _ (Ext.refl _) Try.prog _ ta_int
              have w1 : IntKind.i64.wrap ((s : Int) + 1) = ((s + 1 : Nat) : Int) := by rw [wrap_i64 (by omega) (by omega)]; omega
              simp (maxSteps := 1000000) (disch := first | assumption | omega | rfl | decide | simp only [fitsR, Bool.and_self]) [↓rules, rules, ↓rulesDp, rulesDq, lit_u64, Int.ofNat_inj, stops, q_int, q_bool, q_S_int, q_forest_Forest, c5, hG0, h1, w1, e2, a1]
              refine ⟨u.length + 2 - (s + 1), by omega, s + 1, rfl, by omega, ?_, by omega⟩
              rw [hwk, show u.length + 1 - s = (u.length + 1 - (s + 1)) + 1 by omega, walkF, c4, upAt_nat hq]; rfl
        · exact ⟨0, i, by simp, by omega, rfl, rfl, rfl, by rfl⟩
      · exact ⟨0, by simp, by simp, rfl, rfl, rfl, by rfl⟩
    have hlt1 : i < u.length := by omega
    obtain ⟨b1, o1, h1, _, h2⟩ := ha1.one hlt1
    have e2 := h2 g' (Ext.refl _) Try.prog _ ta_int
    rw [List.drop_eq_getElem_cons hlt1, List.all_cons] at he
    have w1 : IntKind.i64.wrap ((i : Int) + 1) = ((i + 1 : Nat) : Int) := by rw [wrap_i64 (by omega) (by omega)]; omega
    have done : ∀ b : Bool, upOk u u[i] = true → okUp u = (u.drop (i + 1)).all (upOk u) := fun b h => by rw [he, h, Bool.true_and]
    by_cases c2 : u[i] = -2
    · simp (maxSteps := 1000000) (disch := first | assumption | omega | rfl | decide | simp only [fitsR, Bool.and_self]) [↓rules, rules, ↓rulesDp, rulesDq, lit_u64, Int.ofNat_inj, stops, rc_forest_Goodl0, q_int, q_bool, q_S_int, q_forest_Forest, hlt, hlt1, h1, e2, c2, w1]
      exact ⟨u.length - (i + 1), by omega, i + 1, rfl, by omega, done true (by simp [upOk, c2]), by omega⟩
    by_cases c3 : u[i] = -1
    · simp (maxSteps := 1000000) (disch := first | assumption | omega | rfl | decide | simp only [fitsR, Bool.and_self]) [↓rules, rules, ↓rulesDp, rulesDq, lit_u64, Int.ofNat_inj, stops, rc_forest_Goodl0, q_int, q_bool, q_S_int, q_forest_Forest, hlt, hlt1, h1, e2, c2, c3, w1]
      exact ⟨u.length - (i + 1), by omega, i + 1, rfl, by omega, done true (by simp [upOk, c3]), by omega⟩
    simp (maxSteps := 1000000) (disch := first | assumption | omega | rfl | decide | simp only [fitsR, Bool.and_self]) [↓rules, rules, ↓rulesDp, rulesDq, lit_u64, Int.ofNat_inj, stops, rc_forest_Goodl0, q_int, q_bool, q_S_int, q_forest_Forest, hlt, hlt1, h1, e2, c2, c3, w1, hG0]
    rw [← h1]
    refine rcall_quiet rfl (forest_is va u _ _ _ hl ha1) ?_
    cases c4 : isF u u[i]
    · simp (maxSteps := 1000000) (disch := first | assumption | omega | rfl | decide | simp only [fitsR, Bool.and_self]) [↓rules, rules, ↓rulesDp, rulesDq, lit_u64, Int.ofNat_inj, stops, q_int, q_bool, q_S_int, q_forest_Forest]
      refine done_q hdom k1 rfl ?_
      rw [he, show upOk u u[i] = false by simp [upOk, c2, c3, c4]]; rfl
    · simp (maxSteps := 1000000) (disch := first | assumption | omega | rfl | decide | simp only [fitsR, Bool.and_self]) [↓rules, rules, ↓rulesDp, rulesDq, lit_u64, Int.ofNat_inj, stops, q_int, q_bool, q_S_int, q_forest_Forest, w1, h1]
      exact ⟨u.length - (i + 1), by omega, i + 1, rfl, by omega, done true (by simp [upOk, c4]), by omega⟩
  · exact ⟨0, by simp, by simp, rfl, rfl, by rw [List.drop_zero]; rfl, by rfl⟩
/-- Is it good, and is something there? -/
def mayF (u : List Int) (i : Int) : Bool := goodF u && isF u i
theorem mayF_iff {u : List Int} {i : Int} : mayF u i = true ↔ goodF u = true ∧ isF u i = true := by rw [mayF, Bool.and_eq_true]
theorem forest_may (va : Value) (u : List Int) (i : Int) (g : AMem) (n : Nat) (hl : u.length ≤ 100000) (ha : rdI g va u) : FnC Try.prog f_forest_may [fv va, .int .i64 i] g n (fun _ => False) (.bool (mayF u i)) g n := by
  refine fnC_of_rwp t_forest_may hm rfl fun hdom => ?_
  unfold mayF
  have k1 := (Kept.refl hdom).new (.row [va] true)
  have ha1 := ha.ext (k1.ext hdom)
  simp (maxSteps := 1000000) (disch := first | assumption | omega | rfl | decide | simp only [fitsR, Bool.and_self]) [↓rules, rules, ↓rulesDp, rulesDq, lit_u64, Int.ofNat_inj, stops, rc_forest_may, q_int, q_bool, q_S_int, q_forest_Forest]
  refine rcall_quiet rfl (forest_Good va u _ _ hl ha1) ?_
  cases cg : goodF u
  · simp (maxSteps := 1000000) (disch := first | assumption | omega | rfl | decide | simp only [fitsR, Bool.and_self]) [↓rules, rules, ↓rulesDp, rulesDq, lit_u64, Int.ofNat_inj, stops, q_int, q_bool, q_S_int, q_forest_Forest]
    exact done_q hdom k1 rfl rfl
  · simp (maxSteps := 1000000) (disch := first | assumption | omega | rfl | decide | simp only [fitsR, Bool.and_self]) [↓rules, rules, ↓rulesDp, rulesDq, lit_u64, Int.ofNat_inj, stops, q_int, q_bool, q_S_int, q_forest_Forest]
    refine rcall_quiet rfl (forest_is va u i _ _ hl ha1) ?_
    simp (maxSteps := 1000000) (disch := first | assumption | omega | rfl | decide | simp only [fitsR, Bool.and_self]) [↓rules, rules, ↓rulesDp, rulesDq, lit_u64, Int.ofNat_inj, stops, q_int, q_bool, q_S_int, q_forest_Forest]
    exact done_q hdom k1 rfl rfl
/-- How deep; what is not there: -1. -/
def depthS (u : List Int) (i : Int) : Int := if mayF u i = true then (dpt u i : Int) else -1
theorem forest_Depth (va : Value) (u : List Int) (i : Int) (g : AMem) (n : Nat) (hl : u.length ≤ 100000) (ha : rdI g va u) : FnC Try.prog f_forest_Depth [fv va, .int .i64 i] g n (fun _ => False) (.int .i64 (depthS u i)) g n := by
  refine fnC_of_rwp t_forest_Depth hm rfl fun hdom => ?_
  have k1 := (Kept.refl hdom).new (.row [va] true)
  have ha1 := ha.ext (k1.ext hdom)
  simp (maxSteps := 1000000) (disch := first | assumption | omega | rfl | decide | simp only [fitsR, Bool.and_self]) [↓rules, rules, ↓rulesDp, rulesDq, lit_u64, Int.ofNat_inj, stops, rc_forest_Depth, q_int, q_bool, q_S_int, q_forest_Forest]
  refine rcall_quiet rfl (forest_may va u i _ _ hl ha1) ?_
  unfold depthS
  cases cg : mayF u i
  · simp (maxSteps := 1000000) (disch := first | assumption | omega | rfl | decide | simp only [fitsR, Bool.and_self]) [↓rules, rules, ↓rulesDp, rulesDq, lit_u64, Int.ofNat_inj, stops, q_int, q_bool, q_S_int, q_forest_Forest]
    exact done_q hdom k1 rfl rfl
  obtain ⟨cg, ci⟩ := mayF_iff.1 cg
  have hr := good_rk cg
  obtain ⟨a0, a1, a2⟩ := isF_iff.1 ci
  obtain ⟨q, rfl⟩ : ∃ q : Nat, i = q := ⟨i.toNat, by omega⟩
  have hq : q < u.length := by omega
  obtain ⟨b1, o1, h1, _, h2⟩ := ha1.one hq
  have e2 := h2 _ (Ext.refl _) Try.prog _ ta_int
  have hG0 : gset g n (some (.row [va] true)) n = some (.row [va] true) := by simp [gset]
  generalize hG : gset g n (some (.row [va] true)) = G at *
  simp (maxSteps := 1000000) (disch := first | assumption | omega | rfl | decide | simp only [fitsR, Bool.and_self]) [↓rules, rules, ↓rulesDp, rulesDq, lit_u64, Int.ofNat_inj, stops, q_int, q_bool, q_S_int, q_forest_Forest, hG0, h1, a1, e2]
  have hlt := hr.lt ci
  refine rwp_loop (fun j l g' n' => ∃ (c : Nat) (a : Int), j = u.length + 1 - c ∧ c ≤ u.length ∧ g' = G ∧ n' = n + 1 ∧ (a = -1 ∧ c = dpt u q ∨ isF u a = true ∧ c + 1 + dpt u a = dpt u q) ∧ l = [(2, .pointer (some ⟨n, 0, none⟩)), (5, .int .i64 c), (6, .int .i64 a)]) ?_ (k := u.length + 1) ?_
  · rintro j l g' n' ⟨c, a, rfl, hc, rfl, rfl, hca, rfl⟩
    rcases hca with ⟨rfl, hcd⟩ | ⟨hia, hcd⟩
    · simp (maxSteps := 1000000) (disch := first | assumption | omega | rfl | decide | simp only [fitsR, Bool.and_self]) [↓rules, rules, ↓rulesDp, rulesDq, lit_u64, Int.ofNat_inj, stops, rc_forest_Depthl0, q_int, q_bool, q_S_int, q_forest_Forest]
      refine done_q hdom k1 rfl ?_
      rw [← hcd]; rfl
    · obtain ⟨x0, x1, x2⟩ := isF_iff.1 hia
      have hne : a ≠ -1 := by omega
      obtain ⟨p, rfl⟩ : ∃ p : Nat, a = p := ⟨a.toNat, by omega⟩
      have hp : p < u.length := by omega
      obtain ⟨b3, o3, h3, _, h4⟩ := ha1.one hp
      have e4 := h4 g' (Ext.refl _) Try.prog _ ta_int
      have w1 : IntKind.i64.wrap ((c : Int) + 1) = ((c + 1 : Nat) : Int) := by rw [wrap_i64 (by omega) (by omega)]; omega
      simp (maxSteps := 1000000) (disch := first | assumption | omega | rfl | decide | simp only [fitsR, Bool.and_self]) [↓rules, rules, ↓rulesDp, rulesDq, lit_u64, Int.ofNat_inj, stops, rc_forest_Depthl0, q_int, q_bool, q_S_int, q_forest_Forest, hne, hG0, h3, x1, e4, w1]
      refine ⟨u.length + 1 - (c + 1), by omega, c + 1, rfl, by omega, ?_, by omega⟩
      rw [← upAt_nat hp]
      by_cases hr1 : upAt u p = -1
      · left; have := hr.root _ hia hr1; exact ⟨hr1, by omega⟩
      · right
        obtain ⟨s1, s2⟩ := hr.step _ hia hr1
        exact ⟨s1, by omega⟩
  · refine ⟨0, u[q], by simp, by omega, rfl, rfl, ?_, by rfl⟩
    rw [← upAt_nat hq]
    by_cases hr1 : upAt u q = -1
    · left; have := hr.root _ ci hr1; exact ⟨hr1, by omega⟩
    · right
      obtain ⟨s1, s2⟩ := hr.step _ ci hr1
      exact ⟨s1, by omega⟩
end Go.Proofs.Ytfcbhgiccgommaa.F10

namespace Go.Proofs.Ytfcbhgiccgommaa.F10
open Go Go.Proofs Go.Proofs.YtfcbhgiccgommaaAbs
variable [Base]
set_option maxHeartbeats 4000000
set_option maxRecDepth 100000
abbrev cI (xs : List Int) : List Value := xs.map (Value.int .i64)
/-- A slice of its own row, made from 'n' on; or none. -/
def Gi (n : Nat) (g : AMem) (v : Value) (xs : List Int) : Prop := (v = .slice none 0 0 ∧ xs = []) ∨ ∃ b, n ≤ b ∧ v = .slice (some ⟨b, 0, none⟩) xs.length 1 ∧ g b = some (.row (cI xs) true)
theorem flatI (xs : List Int) : xs.flatMap (fun x => [Value.int .i64 x]) = cI xs := by
  induction xs with
  | nil => rfl
  | cons x xs ih => simp only [List.flatMap_cons, ih]; rfl
theorem Gi.rd {n : Nat} {g : AMem} {v : Value} {xs : List Int} (h : Gi n g v xs) : rdI g v xs := by
  rcases h with ⟨rfl, rfl⟩ | ⟨b, _, rfl, h2⟩
  · rfl
  · by_cases h0 : xs.length = 0
    · have : xs = [] := List.length_eq_zero_iff.1 h0
      subst this; rfl
    · refine Rd.of_row (e := 1) (fun _ => rfl) h2 (by simp [cI]) ?_ rfl
      rw [flatI, List.drop_zero, List.take_of_length_le (by simp [cI])]
theorem Gi.put {m n x : Nat} {g : AMem} {v : Value} {xs : List Int} {o : Option AObj} (h : Gi m g v xs) (hx : x < m) (hn : n ≤ m) : Gi n (gset g x o) v xs := by
  rcases h with h | ⟨b, hb, h1, h2⟩
  · exact Or.inl h
  · exact Or.inr ⟨b, by omega, h1, by rw [gset, if_neg (by omega)]; exact h2⟩
theorem Gi.le {m n : Nat} {g : AMem} {v : Value} {xs : List Int} (h : Gi m g v xs) (hn : n ≤ m) : Gi n g v xs := h.imp id fun ⟨b, hb, h1, h2⟩ => ⟨b, by omega, h1, h2⟩
theorem Gi.new {n m : Nat} {g : AMem} {v : Value} {xs : List Int} {o : Option AObj} (h : Gi n g v xs) (hd : ∀ i, g i ≠ none → i < m) : Gi n (gset g m o) v xs := by
  rcases h with h | ⟨b, hb, h1, h2⟩
  · exact Or.inl h
  · have := hd b (by rw [h2]; simp)
    exact Or.inr ⟨b, hb, h1, by rw [gset, if_neg (by omega)]; exact h2⟩
/-- What is kept is kept; a slice of ours as well. -/
theorem Gi.kept {n m : Nat} {g g' : AMem} {n' : Nat} {v : Value} {xs : List Int} (h : Gi n g v xs) (hd : ∀ i, g i ≠ none → i < m) (hk : Kept g m g' n') : Gi n g' v xs := by
  rcases h with h | ⟨b, hb, h1, h2⟩
  · exact Or.inl h
  · have := hd b (by rw [h2]; simp)
    exact Or.inr ⟨b, hb, h1, by rw [hk.same b this]; exact h2⟩
def kidsU (u : List Int) (i : Int) (k : Nat) : List Int := ((List.range k).filter fun k => decide (upAt u (k : Nat) = i)).map Int.ofNat
theorem kidsU_succ (u : List Int) (i : Int) (k : Nat) : kidsU u i (k + 1) = kidsU u i k ++ if upAt u (k : Nat) = i then [(k : Int)] else [] := by
  unfold kidsU
  rw [List.range_succ, List.filter_append, List.map_append]
  by_cases c : upAt u (k : Nat) = i
  · simp [c]
  · simp [c]
theorem kidsU_len (u : List Int) (i : Int) (k : Nat) : (kidsU u i k).length ≤ k := by
  unfold kidsU
  rw [List.length_map]
  exact Nat.le_trans (List.length_filter_le _ _) (by simp)
theorem forest_of (va : Value) (u : List Int) (i : Int) (g : AMem) (n : Nat) (hdom : ∀ i, g i ≠ none → i < n) (hl : u.length ≤ 100000) (ha : rdI g va u) :
    FnS Try.prog f_forest_Forest_of [fv va, .int .i64 i] g n (fun _ => False) fun v g' n' => Gi n g' v (kidsF u i) ∧ Kept g n g' n' := by
  refine fnS_of_rwp t_forest_Forest_of hm rfl hdom ?_
  obtain ⟨a, ea, hva⟩ := ha.form
  have k1 := (Kept.refl hdom).new (.row [va] true)
  simp (maxSteps := 1000000) (disch := first | assumption | omega | rfl | decide | simp only [fitsR, Bool.and_self]) [↓rules, rules, ↓rulesDp, rulesDq, lit_u64, Int.ofNat_inj, stops, rc_forest_Forest_of, q_int, q_bool, q_S_int, q_forest_Forest, hva]
  rw [← hva]
  refine rwp_loop (fun j l g' n' => ∃ k V, j = u.length - k ∧ k ≤ u.length ∧ Kept g n g' n' ∧ n + 1 ≤ n' ∧ Gi n g' V (kidsU u i k) ∧ l = [(1, .int .i64 i), (5, V), (9, va), (10, .int .i64 u.length), (11, .int .i64 k)]) ?_ (k := u.length) ?_
  · rintro j l g' n' ⟨k, V, rfl, hk, hkp, hn', hV, rfl⟩
    by_cases hlt : (k : Int) < (u.length : Int)
    case neg =>
      have : k = u.length := by omega
      subst this
      simp (maxSteps := 1000000) (disch := first | assumption | omega | rfl | decide | simp only [fitsR, Bool.and_self]) [↓rules, rules, ↓rulesDp, rulesDq, lit_u64, Int.ofNat_inj, stops, rc_forest_Forest_ofl0, q_int, q_bool, q_S_int, q_forest_Forest, hlt]
      exact sdone_ret rfl ⟨hV, hkp⟩
    have hlt1 : k < u.length := by omega
    obtain ⟨b1, o1, h1, _, h2⟩ := ha.one hlt1
    have e2 := h2 g' (hkp.ext hdom) Try.prog _ ta_int
    have w1 : IntKind.i64.wrap ((k : Int) + 1) = ((k + 1 : Nat) : Int) := by rw [wrap_i64 (by omega) (by omega)]; omega
    have hs := kidsU_succ u i k
    rw [upAt_nat hlt1] at hs
    have hlen := kidsU_len u i k
    by_cases c : u[k] = i
    · rw [if_pos c] at hs
      rcases hV with ⟨rfl, hnil⟩ | ⟨bV, hbV, rfl, hgV⟩
      · simp (maxSteps := 1000000) (disch := first | assumption | omega | rfl | decide | simp only [fitsR, Bool.and_self]) [↓rules, rules, ↓rulesDp, rulesDq, lit_u64, Int.ofNat_inj, stops, rc_forest_Forest_ofl0, q_int, q_bool, q_S_int, q_forest_Forest, hlt, h1, e2, c, w1]
        refine ⟨u.length - (k + 1), by omega, k + 1, rfl, by omega, (hkp.new _).new _, by omega, _, ?_, rfl, by omega⟩
        rw [hs, hnil]
        exact Or.inr ⟨n' + 1, by omega, rfl, by simp [gset]⟩
      · have hbm := hkp.dom bV (by rw [hgV]; simp)
        have hbn1 : bV ≠ n' := by omega
        generalize hcs : kidsU u i k = cs at *
        have hsz : (cs.length + 1) * 8 ≤ 70368744177664 := by omega
        have hsz2 : cs.length ≤ 70368744177663 := by omega
        simp (maxSteps := 1000000) (disch := first | assumption | omega | rfl | decide | simp only [fitsR, Bool.and_self]) [↓rules, rules, ↓rulesDp, rulesDq, lit_u64, Int.ofNat_inj, stops, rc_forest_Forest_ofl0, q_int, q_bool, q_S_int, q_forest_Forest, hlt, h1, e2, c, w1, hgV, hbn1, hsz, hsz2]
        refine ⟨hbV, u.length - (k + 1), by omega, k + 1, rfl, by omega, ((hkp.new _).drop hbV).new _, by omega, _, ?_, rfl, by omega⟩
        rw [hs]
        exact Or.inr ⟨n' + 1, by omega, by simp, by simp [gset, cI]⟩
    · rw [if_neg c, List.append_nil] at hs
      simp (maxSteps := 1000000) (disch := first | assumption | omega | rfl | decide | simp only [fitsR, Bool.and_self]) [↓rules, rules, ↓rulesDp, rulesDq, lit_u64, Int.ofNat_inj, stops, rc_forest_Forest_ofl0, q_int, q_bool, q_S_int, q_forest_Forest, hlt, h1, e2, c, w1]
      exact ⟨u.length - (k + 1), by omega, k + 1, rfl, by omega, hkp, hn', V, by rw [hs]; exact hV, rfl, by omega⟩
  · exact ⟨0, .slice none 0 0, by simp, by simp, k1, Nat.le_refl _, Or.inl ⟨rfl, rfl⟩, by rfl⟩
theorem cellsI_ok (xs : List Int) : (cI xs).all cellOk = true := by
  rw [List.all_eq_true]
  intro v hv
  obtain ⟨x, _, rfl⟩ := List.mem_map.1 hv
  rfl
theorem readI {g : AMem} {v : Value} {xs : List Int} (h : rdI g v xs) : aRead g 1 v = some (xs.length, cI xs) := by rw [← flatI]; exact h
theorem beh_take (u : List Int) (f : Nat) (l : List Int) (k : Nat) (hk : k < l.length) : behF u (f + 1) (l.take (k + 1)) = behF u (f + 1) (l.take k) ++ (l[k] :: behF u f (kidsF u l[k])) := by
  rw [take_snoc l k hk]
  simp only [behF, List.flatMap_append, List.flatMap_cons, List.flatMap_nil, List.append_nil]
theorem beh_take_le (u : List Int) (f : Nat) (l : List Int) (k : Nat) : (behF u (f + 1) (l.take k)).length ≤ (behF u (f + 1) l).length := by
  have e : behF u (f + 1) l = behF u (f + 1) (l.take k) ++ behF u (f + 1) (l.drop k) := by
    simp only [behF, ← List.flatMap_append, List.take_append_drop]
  rw [e, List.length_append]
  omega
theorem forest_behind : ∀ (f : Nat) (va vl : Value) (u l : List Int) (g : AMem) (n : Nat) (hdom : ∀ i, g i ≠ none → i < n) (hl : u.length ≤ 100000) (ha : rdI g va u) (hb : rdI g vl l) (hg : goodF u = true)
    (hf : ∀ j, j ∈ l → isF u j = true ∧ u.length ≤ dpt u j + f) (hll : l.length ≤ 100000) (hN : (behF u f l).length ≤ 100000),
    FnS Try.prog f_forest_Forest_behind [fv va, vl] g n (fun _ => False) fun v g' n' => Gi n g' v (behF u f l) ∧ Kept g n g' n'
  | 0, va, vl, u, l, g, n, hdom, hl, ha, hb, hg, hf, hll, hN => by
    have hnil : l = [] := by
      cases l with
      | nil => rfl
      | cons j l => have h := hf j List.mem_cons_self; have := (good_rk hg).lt h.1; omega
    subst hnil
    refine fnS_of_rwp t_forest_Forest_behind hm rfl hdom ?_
    obtain ⟨a, ea, hva⟩ := hb.form
    have k1 := (Kept.refl hdom).new (.row [va] true)
    simp (maxSteps := 1000000) (disch := first | assumption | omega | rfl | decide | simp only [fitsR, Bool.and_self]) [↓rules, rules, ↓rulesDp, rulesDq, lit_u64, Int.ofNat_inj, stops, rc_forest_Forest_behind, q_int, q_S_int, q_forest_Forest, hva]
    refine rwp_loop (fun j l g' n' => g' = gset g n (some (.row [va] true)) ∧ n' = n + 1 ∧ ∃ e, l = [(2, .pointer (some ⟨n, 0, none⟩)), (5, .slice none 0 0), (8, e), (9, .int .i64 0), (10, .int .i64 0)]) ?_ (k := 1) ?_
    · rintro j l g' n' ⟨rfl, rfl, e, rfl⟩
      simp (maxSteps := 1000000) (disch := first | assumption | omega | rfl | decide | simp only [fitsR, Bool.and_self]) [↓rules, rules, ↓rulesDp, rulesDq, lit_u64, Int.ofNat_inj, stops, rc_forest_Forest_behindl0, q_int, q_S_int, q_forest_Forest]
      exact sdone_ret rfl ⟨Or.inl ⟨rfl, rfl⟩, k1⟩
    · exact ⟨rfl, rfl, _, by rfl⟩
  | f + 1, va, vl, u, l, g, n, hdom, hl, ha, hb, hg, hf, hll, hN => by
    refine fnS_of_rwp t_forest_Forest_behind hm rfl hdom ?_
    obtain ⟨a, ea, hva⟩ := hb.form
    have k1 := (Kept.refl hdom).new (.row [va] true)
    simp (maxSteps := 1000000) (disch := first | assumption | omega | rfl | decide | simp only [fitsR, Bool.and_self]) [↓rules, rules, ↓rulesDp, rulesDq, lit_u64, Int.ofNat_inj, stops, rc_forest_Forest_behind, q_int, q_S_int, q_forest_Forest, hva]
    rw [← hva]
    refine rwp_loop (fun j l_ g' n' => ∃ k V, j = l.length - k ∧ k ≤ l.length ∧ Kept g n g' n' ∧ n + 1 ≤ n' ∧ g' n = some (.row [va] true) ∧ Gi (n + 1) g' V (behF u (f + 1) (l.take k)) ∧ l_ = [(2, .pointer (some ⟨n, 0, none⟩)), (5, V), (8, vl), (9, .int .i64 l.length), (10, .int .i64 k)]) ?_ (k := l.length) ?_
    · rintro j l_ g' n' ⟨k, V, rfl, hk, hkp, hn', hg0, hV, rfl⟩
      by_cases hlt : (k : Int) < (l.length : Int)
      case neg =>
        have : k = l.length := by omega
        subst this
        rw [List.take_length] at hV
        simp (maxSteps := 1000000) (disch := first | assumption | omega | rfl | decide | simp only [fitsR, Bool.and_self]) [↓rules, rules, ↓rulesDp, rulesDq, lit_u64, Int.ofNat_inj, stops, rc_forest_Forest_behindl0, q_int, q_S_int, q_forest_Forest, hlt]
        exact sdone_ret rfl ⟨hV.le (by omega), hkp⟩
      have hlt1 : k < l.length := by omega
      obtain ⟨b1, o1, h1, _, h2⟩ := hb.one hlt1
      have e2 := h2 g' (hkp.ext hdom) Try.prog _ ta_int
      have w1 : IntKind.i64.wrap ((k : Int) + 1) = ((k + 1 : Nat) : Int) := by rw [wrap_i64 (by omega) (by omega)]; omega
      have hs := beh_take u f l k hlt1
      have hN1 := Nat.le_trans (beh_take_le u f l (k + 1)) hN
      rw [hs, List.length_append, List.length_cons] at hN1
      obtain ⟨hj1, hj2⟩ := hf _ (List.getElem_mem hlt1)
      have hrk := good_rk hg
      have hjn2 : l[k] ≠ -2 := fun e => by rw [e, ne_two] at hj1; cases hj1
      have hjn1 : l[k] ≠ -1 := fun e => by rw [e, ne_root] at hj1; cases hj1
      have hfk : ∀ j, j ∈ kidsF u l[k] → isF u j = true ∧ u.length ≤ dpt u j + f := fun j hj => by
        have q1 := (mem_kids.1 hj).2.2
        have q2 := kids_is hjn2 hj
        have q3 := (hrk.step j q2 (by rw [q1]; exact hjn1)).2
        rw [q1] at q3
        exact ⟨q2, by omega⟩
      have hkl : (kidsF u l[k]).length ≤ 100000 := Nat.le_trans (kidsU_len u l[k] u.length) hl
      generalize hcs : behF u (f + 1) (l.take k) = cs at *
      generalize hys : behF u f (kidsF u l[k]) = ys at *
      have hsz : (cs.length + 1) * 8 ≤ 70368744177664 := by omega
      have hsz2 : cs.length ≤ 70368744177663 := by omega
      rcases hV with ⟨rfl, hnil⟩ | ⟨bV, hbV, rfl, hgV⟩
      · simp (maxSteps := 1000000) (disch := first | assumption | omega | rfl | decide | simp only [fitsR, Bool.and_self]) [↓rules, rules, ↓rulesDp, rulesDq, lit_u64, Int.ofNat_inj, stops, rc_forest_Forest_behindl0, q_int, q_S_int, q_forest_Forest, hlt, h1, e2, w1, hg0]
        have kH := (hkp.new (.row [.int .i64 l[k]] true)).new (.row [.int .i64 l[k]] true)
        have hH0 : (gset (gset g' n' (some (AObj.row [Value.int IntKind.i64 l[k]] true))) (n' + 1) (some (AObj.row [Value.int IntKind.i64 l[k]] true))) n = some (.row [va] true) := by simp only [gset]; rw [if_neg (by omega), if_neg (by omega)]; exact hg0
        have hHB : (gset (gset g' n' (some (AObj.row [Value.int IntKind.i64 l[k]] true))) (n' + 1) (some (AObj.row [Value.int IntKind.i64 l[k]] true))) (n' + 1) = some (.row (cI (cs ++ [l[k]])) true) := by rw [hnil]; simp [gset]
        subst hnil
        generalize hG : gset (gset g' n' (some (AObj.row [Value.int IntKind.i64 l[k]] true))) (n' + 1) (some (AObj.row [Value.int IntKind.i64 l[k]] true)) = G at *
        refine dcall_spec kH.dom (forest_of va u l[k] _ _ kH.dom hl (ha.ext (kH.ext hdom))) (fun _ _ _ h => h.2) rfl (by simp (maxSteps := 1000000) (disch := first | assumption | omega | rfl | decide | simp only [fitsR, Bool.and_self]) [↓rules, rules, ↓rulesDp, rulesDq, lit_u64, Int.ofNat_inj]) fun Vk g1 n1 ⟨r1, q1⟩ => ?_
        have kH1 := kH.trans q1
        simp (maxSteps := 1000000) (disch := first | assumption | omega | rfl | decide | simp only [fitsR, Bool.and_self]) [↓rules, rules, ↓rulesDp, rulesDq, lit_u64, Int.ofNat_inj, stops, q_int, q_S_int, q_forest_Forest]
        refine dcall_spec kH1.dom (forest_behind f va Vk u (kidsF u l[k]) g1 n1 kH1.dom hl (ha.ext (kH1.ext hdom)) r1.rd hg hfk hkl (by rw [hys]; omega)) (fun _ _ _ h => h.2) rfl (by simp (maxSteps := 1000000) (disch := first | assumption | omega | rfl | decide | simp only [fitsR, Bool.and_self]) [↓rules, rules, ↓rulesDp, rulesDq, lit_u64, Int.ofNat_inj]) fun Vb g2 n2 ⟨r2, q2⟩ => ?_
        have kH2 := kH1.trans q2
        rw [hys] at r2
        have hread := readI r2.rd
        have lt1 := q1.le
        have lt2 := q2.le
        have hB2 : g2 (n' + 1) = some (.row (cI ([] ++ [l[k]])) true) := by rw [q2.same _ (by omega), q1.same _ (by omega)]; exact hHB
        have h02 : g2 n = some (.row [va] true) := by rw [q2.same _ (by omega), q1.same _ (by omega)]; exact hH0
        have hBL : (cI ([] ++ [l[k]])).length = 1 := by simp [cI]
        have hck := cellsI_ok ys
        by_cases hy0 : ys.length = 0
        · have hy1 : ys = [] := List.length_eq_zero_iff.1 hy0
          simp (maxSteps := 1000000) (disch := first | assumption | omega | rfl | decide | simp only [fitsR, Bool.and_self]) [↓rules, rules, ↓rulesDp, rulesDq, lit_u64, Int.ofNat_inj, stops, q_int, q_S_int, q_forest_Forest, hread, hy0, w1]
          refine ⟨l.length - (k + 1), by omega, k + 1, rfl, by omega, kH2, by omega, h02, _, ?_, rfl, by omega⟩
          rw [hs, hy1]
          exact Or.inr ⟨n' + 1, by omega, by simp, hB2⟩
        · have hsz3 : (1 + ys.length) * 8 ≤ 70368744177664 := by omega
          have hsz4 : 1 + ys.length ≤ 70368744177664 := by omega
          generalize hrow : cI ([] ++ [l[k]]) = row at *
          simp (maxSteps := 1000000) (disch := first | assumption | omega | rfl | decide | simp only [fitsR, Bool.and_self]) [↓rules, rules, ↓rulesDp, rulesDq, lit_u64, Int.ofNat_inj, stops, q_int, q_S_int, q_forest_Forest, hread, hy0, w1, hB2, hck, hsz3, hsz4, hBL]
          refine ⟨by omega, l.length - (k + 1), by omega, k + 1, rfl, by omega, (kH2.drop (by omega)).new _, by omega, ?_, _, ?_, rfl, by omega⟩
          · exact h02
          rw [hs]
          refine Or.inr ⟨n2, by omega, ?_, ?_⟩
          · simp only [List.length_append, List.length_cons, List.length_nil]; congr 1; omega
          · simp only [gset, if_pos]; rw [← hrow]; simp [cI]
      · have hbm := hkp.dom bV (by rw [hgV]; simp)
        have hbn1 : bV ≠ n' := by omega
        simp (maxSteps := 1000000) (disch := first | assumption | omega | rfl | decide | simp only [fitsR, Bool.and_self]) [↓rules, rules, ↓rulesDp, rulesDq, lit_u64, Int.ofNat_inj, stops, rc_forest_Forest_behindl0, q_int, q_S_int, q_forest_Forest, hlt, h1, e2, w1, hgV, hbn1, hsz, hsz2, hg0]
        refine ⟨by omega, ?_⟩
        have kH := ((hkp.new (.row [.int .i64 l[k]] true)).drop (b := bV) (by omega)).new (.row (cI cs ++ [.int .i64 l[k]]) true)
        have hH0 : (gset (gset (gset g' n' (some (AObj.row [Value.int IntKind.i64 l[k]] true))) bV none) (n' + 1) (some (AObj.row (cI cs ++ [Value.int IntKind.i64 l[k]]) true))) n = some (.row [va] true) := by simp only [gset]; rw [if_neg (by omega), if_neg (by omega), if_neg (by omega)]; exact hg0
        have hHB : (gset (gset (gset g' n' (some (AObj.row [Value.int IntKind.i64 l[k]] true))) bV none) (n' + 1) (some (AObj.row (cI cs ++ [Value.int IntKind.i64 l[k]]) true))) (n' + 1) = some (.row (cI (cs ++ [l[k]])) true) := by simp [gset, cI]
        generalize hG : gset (gset (gset g' n' (some (AObj.row [Value.int IntKind.i64 l[k]] true))) bV none) (n' + 1) (some (AObj.row (cI cs ++ [Value.int IntKind.i64 l[k]]) true)) = G at *
        refine dcall_spec kH.dom (forest_of va u l[k] _ _ kH.dom hl (ha.ext (kH.ext hdom))) (fun _ _ _ h => h.2) rfl (by simp (maxSteps := 1000000) (disch := first | assumption | omega | rfl | decide | simp only [fitsR, Bool.and_self]) [↓rules, rules, ↓rulesDp, rulesDq, lit_u64, Int.ofNat_inj]) fun Vk g1 n1 ⟨r1, q1⟩ => ?_
        have kH1 := kH.trans q1
        simp (maxSteps := 1000000) (disch := first | assumption | omega | rfl | decide | simp only [fitsR, Bool.and_self]) [↓rules, rules, ↓rulesDp, rulesDq, lit_u64, Int.ofNat_inj, stops, q_int, q_S_int, q_forest_Forest]
        refine dcall_spec kH1.dom (forest_behind f va Vk u (kidsF u l[k]) g1 n1 kH1.dom hl (ha.ext (kH1.ext hdom)) r1.rd hg hfk hkl (by rw [hys]; omega)) (fun _ _ _ h => h.2) rfl (by simp (maxSteps := 1000000) (disch := first | assumption | omega | rfl | decide | simp only [fitsR, Bool.and_self]) [↓rules, rules, ↓rulesDp, rulesDq, lit_u64, Int.ofNat_inj]) fun Vb g2 n2 ⟨r2, q2⟩ => ?_
        have kH2 := kH1.trans q2
        rw [hys] at r2
        have hread := readI r2.rd
        have lt1 := q1.le
        have lt2 := q2.le
        have hB2 : g2 (n' + 1) = some (.row (cI (cs ++ [l[k]])) true) := by rw [q2.same _ (by omega), q1.same _ (by omega)]; exact hHB
        have h02 : g2 n = some (.row [va] true) := by rw [q2.same _ (by omega), q1.same _ (by omega)]; exact hH0
        have hBL : (cI (cs ++ [l[k]])).length = (cs.length + 1) := by simp [cI]
        have hck := cellsI_ok ys
        by_cases hy0 : ys.length = 0
        · have hy1 : ys = [] := List.length_eq_zero_iff.1 hy0
          simp (maxSteps := 1000000) (disch := first | assumption | omega | rfl | decide | simp only [fitsR, Bool.and_self]) [↓rules, rules, ↓rulesDp, rulesDq, lit_u64, Int.ofNat_inj, stops, q_int, q_S_int, q_forest_Forest, hread, hy0, w1]
          refine ⟨l.length - (k + 1), by omega, k + 1, rfl, by omega, kH2, by omega, h02, _, ?_, rfl, by omega⟩
          rw [hs, hy1]
          exact Or.inr ⟨n' + 1, by omega, by simp, hB2⟩
        · have hsz3 : ((cs.length + 1) + ys.length) * 8 ≤ 70368744177664 := by omega
          have hsz4 : (cs.length + 1) + ys.length ≤ 70368744177664 := by omega
          generalize hrow : cI (cs ++ [l[k]]) = row at *
          simp (maxSteps := 1000000) (disch := first | assumption | omega | rfl | decide | simp only [fitsR, Bool.and_self]) [↓rules, rules, ↓rulesDp, rulesDq, lit_u64, Int.ofNat_inj, stops, q_int, q_S_int, q_forest_Forest, hread, hy0, w1, hB2, hck, hsz3, hsz4, hBL]
          refine ⟨by omega, l.length - (k + 1), by omega, k + 1, rfl, by omega, (kH2.drop (by omega)).new _, by omega, ?_, _, ?_, rfl, by omega⟩
          · exact h02
          rw [hs]
          refine Or.inr ⟨n2, by omega, ?_, ?_⟩
          · simp only [List.length_append, List.length_cons, List.length_nil]; congr 1; omega
          · simp only [gset, if_pos]; rw [← hrow]; simp [cI]
    · exact ⟨0, .slice none 0 0, by simp, by simp, k1, Nat.le_refl _, by simp [gset], Or.inl ⟨rfl, rfl⟩, by rfl⟩
end Go.Proofs.Ytfcbhgiccgommaa.F10

namespace Go.Proofs.Ytfcbhgiccgommaa.F10
open Go Go.Proofs Go.Proofs.YtfcbhgiccgommaaAbs
variable [Base]
set_option maxHeartbeats 4000000
set_option maxRecDepth 100000
theorem rdI_cases {g : AMem} {v : Value} {xs : List Int} (h : rdI g v xs) : v = .slice none 0 0 ∧ xs = [] ∨ ∃ b e, v = .slice (some b) xs.length e := by
  obtain ⟨a, e, rfl⟩ := h.form
  cases a with
  | some b => exact Or.inr ⟨b, e, rfl⟩
  | none =>
    left
    have h : aRead g 1 (.slice none xs.length e) = some (xs.length, xs.flatMap fun x => [Value.int .i64 x]) := h
    unfold aRead at h
    split at h
    · rename_i h1
      simp only [Value.slice.injEq] at h1
      obtain ⟨_, h2, h3⟩ := h1
      have : xs = [] := List.length_eq_zero_iff.1 h2
      subst this; subst h3
      exact ⟨rfl, rfl⟩
    · rename_i h1; cases h1
    · cases h
theorem slices_CloneI (va : Value) (u : List Int) (g : AMem) (n : Nat) (hdom : ∀ i, g i ≠ none → i < n) (hl : u.length ≤ 100000) (ha : rdI g va u) :
    FnS Try.prog f_slices_Clone_S_int_int [va] g n (fun _ => False) fun v g' n' => Gi n g' v u ∧ Kept g n g' n' := by
  refine fnS_of_rwp t_slices_Clone_S_int_int hm rfl hdom ?_
  rcases rdI_cases ha with ⟨rfl, rfl⟩ | ⟨b, e, hva⟩
  · simp (maxSteps := 1000000) (disch := first | assumption | omega | rfl | decide | simp only [fitsR, Bool.and_self]) [↓rules, rules, ↓rulesDp, rulesDq, lit_u64, Int.ofNat_inj, stops, rc_slices_Clone_S_int_int, q_int, q_bool, q_S_int, bin_eql_nils tu_S_int]
    exact sdone_ret rfl ⟨Or.inl ⟨rfl, rfl⟩, Kept.refl hdom⟩
  have k1 := (Kept.refl hdom).new (.row [] true)
  have hread := readI (ha.ext (k1.ext hdom))
  have hck := cellsI_ok u
  rw [hva] at hread
  by_cases h0 : u.length = 0
  · have : u = [] := List.length_eq_zero_iff.1 h0
    subst this
    rw [show ([] : List Int).length = 0 from rfl] at hread hva
    simp (maxSteps := 1000000) (disch := first | assumption | omega | rfl | decide | simp only [fitsR, Bool.and_self]) [↓rules, rules, ↓rulesDp, rulesDq, lit_u64, Int.ofNat_inj, stops, rc_slices_Clone_S_int_int, q_int, q_bool, q_S_int, hva, bin_eql_slice tu_S_int, hread]
    exact sdone_ret rfl ⟨Or.inr ⟨n, Nat.le_refl _, rfl, by simp [gset]⟩, k1⟩
  · have hsz : u.length * 8 ≤ 70368744177664 := by omega
    have hsz2 : u.length ≤ 70368744177664 := by omega
    simp (maxSteps := 1000000) (disch := first | assumption | omega | rfl | decide | simp only [fitsR, Bool.and_self]) [↓rules, rules, ↓rulesDp, rulesDq, lit_u64, Int.ofNat_inj, stops, rc_slices_Clone_S_int_int, q_int, q_bool, q_S_int, hva, hread, hck, h0, hsz, hsz2, bin_eql_slice tu_S_int]
    exact sdone_ret rfl ⟨Or.inr ⟨n + 1, by omega, rfl, by simp [gset]⟩, (by repeat first | exact Kept.refl hdom | refine Kept.new ?_ _ | refine Kept.drop ?_ (by omega) | refine Kept.put ?_ (by omega) (by omega) _ | refine Kept.skip ?_)⟩
theorem forest_clone (va : Value) (u : List Int) (g : AMem) (n : Nat) (hdom : ∀ i, g i ≠ none → i < n) (hl : u.length ≤ 100000) (ha : rdI g va u) :
    FnS Try.prog f_forest_Forest_clone [fv va] g n (fun _ => False) fun v g' n' => ∃ V, v = fv V ∧ Gi n g' V u ∧ Kept g n g' n' := by
  refine fnS_of_rwp t_forest_Forest_clone hm rfl hdom ?_
  have k1 := ((Kept.refl hdom).new (.row [va] true)).new (.row [.slice none 0 0] true)
  simp (maxSteps := 1000000) (disch := first | assumption | omega | rfl | decide | simp only [fitsR, Bool.and_self]) [↓rules, rules, ↓rulesDp, rulesDq, lit_u64, Int.ofNat_inj, stops, rc_forest_Forest_clone, q_int, q_S_int, q_forest_Forest]
  have hG1 : gset (gset g n (some (.row [va] true))) (n + 1) (some (.row [.slice none 0 0] true)) (n + 1) = some (.row [.slice none 0 0] true) := by simp [gset]
  generalize hG : gset (gset g n (some (.row [va] true))) (n + 1) (some (.row [.slice none 0 0] true)) = G at *
  refine rcall_spec (slices_CloneI va u _ _ k1.dom hl (ha.ext (k1.ext hdom))) rfl (fun _ h => h.elim) rfl fun V g1 n1 ⟨r1, q1⟩ => ?_
  have hg1 : g1 (n + 1) = some (.row [.slice none 0 0] true) := by rw [q1.same _ (by omega)]; exact hG1
  obtain ⟨xa, xe, hV⟩ := r1.rd.form
  have l1 := q1.le
  simp (maxSteps := 1000000) (disch := first | assumption | omega | rfl | decide | simp only [fitsR, Bool.and_self]) [↓rules, rules, ↓rulesDp, rulesDq, lit_u64, Int.ofNat_inj, stops, q_int, q_S_int, q_forest_Forest, hg1, hV]
  refine sdone_ret (v := fv (.slice xa u.length xe)) (by simp (maxSteps := 1000000) (disch := first | assumption | omega | rfl | decide | simp only [fitsR, Bool.and_self]) [↓rules, rules, ↓rulesDp, rulesDq, lit_u64, Int.ofNat_inj, stops, aResults, aRes, q_int, q_S_int, q_forest_Forest]) ⟨_, rfl, ?_, (k1.trans q1).put (by omega) (by omega) _⟩
  rw [← hV]
  exact r1.put (by omega) (by omega)
/-- What came straight of it. -/
theorem forest_Kids (va : Value) (u : List Int) (i : Int) (g : AMem) (n : Nat) (hdom : ∀ i, g i ≠ none → i < n) (hl : u.length ≤ 100000) (ha : rdI g va u) :
    FnS Try.prog f_forest_Kids [fv va, .int .i64 i] g n (fun _ => False) fun v g' n' => Gi n g' v (if mayF u i = true then kidsF u i else []) ∧ Kept g n g' n' := by
  refine fnS_of_rwp t_forest_Kids hm rfl hdom ?_
  have k1 := (Kept.refl hdom).new (.row [va] true)
  have ha1 := ha.ext (k1.ext hdom)
  simp (maxSteps := 1000000) (disch := first | assumption | omega | rfl | decide | simp only [fitsR, Bool.and_self]) [↓rules, rules, ↓rulesDp, rulesDq, lit_u64, Int.ofNat_inj, stops, rc_forest_Kids, q_int, q_bool, q_S_int, q_forest_Forest]
  refine rcall_quiet rfl (forest_may va u i _ _ hl ha1) ?_
  cases cg : mayF u i
  · simp (maxSteps := 1000000) (disch := first | assumption | omega | rfl | decide | simp only [fitsR, Bool.and_self]) [↓rules, rules, ↓rulesDp, rulesDq, lit_u64, Int.ofNat_inj, stops, q_int, q_bool, q_S_int, q_forest_Forest]
    exact sdone_ret rfl ⟨Or.inl ⟨rfl, rfl⟩, k1⟩
  · simp (maxSteps := 1000000) (disch := first | assumption | omega | rfl | decide | simp only [fitsR, Bool.and_self]) [↓rules, rules, ↓rulesDp, rulesDq, lit_u64, Int.ofNat_inj, stops, q_int, q_bool, q_S_int, q_forest_Forest]
    refine rcall_spec (forest_of va u i _ _ k1.dom hl ha1) rfl (fun _ h => h.elim) rfl fun V g1 n1 ⟨r1, q1⟩ => ?_
    simp (maxSteps := 1000000) (disch := first | assumption | omega | rfl | decide | simp only [fitsR, Bool.and_self]) [↓rules, rules, ↓rulesDp, rulesDq, lit_u64, Int.ofNat_inj, stops, q_int, q_bool, q_S_int, q_forest_Forest]
    exact sdone_ret rfl ⟨Gi.le (m := n + 1) (n := n) r1 (by omega), k1.trans q1⟩
theorem spliceI (u : List Int) (q : Nat) (v : Int) (h : q < u.length) : splice (cI u) q [.int .i64 v] = cI (u.set q v) := by
  rw [splice_one _ _ _ (by simpa [cI] using h), cI, cI, List.map_set]
/-- Put at a place. -/
def addOk (u : List Int) (i k : Int) : Bool := goodF u && (decide (0 ≤ i ∧ i < u.length) && (!isF u i && (decide (k = -1) || isF u k)))
theorem forest_Add (va : Value) (u : List Int) (i k : Int) (g : AMem) (n : Nat) (hdom : ∀ i, g i ≠ none → i < n) (hl : u.length ≤ 100000) (ha : rdI g va u) :
    FnS Try.prog f_forest_Add [fv va, .int .i64 i, .int .i64 k] g n (fun _ => False) fun v g' n' => ∃ V, v = .tuple #[fv V, .bool (addOk u i k)] ∧ Gi n g' V (if addOk u i k = true then addF u i k else []) ∧ Kept g n g' n' := by
  refine fnS_of_rwp t_forest_Add hm rfl hdom ?_
  have k1 := ((Kept.refl hdom).new (.row [va] true)).new (.row [.slice none 0 0] true)
  have ha1 := ha.ext (k1.ext hdom)
  obtain ⟨a, ea, hva⟩ := ha.form
  simp (maxSteps := 1000000) (disch := first | assumption | omega | rfl | decide | simp only [fitsR, Bool.and_self]) [↓rules, rules, ↓rulesDp, rulesDq, lit_u64, Int.ofNat_inj, stops, rc_forest_Add, q_int, q_bool, q_S_int, q_forest_Forest]
  have hG0 : gset (gset g n (some (.row [va] true))) (n + 1) (some (.row [.slice none 0 0] true)) n = some (.row [va] true) := by simp [gset]
  have hG1 : gset (gset g n (some (.row [va] true))) (n + 1) (some (.row [.slice none 0 0] true)) (n + 1) = some (.row [.slice none 0 0] true) := by simp [gset]
  generalize hG : gset (gset g n (some (.row [va] true))) (n + 1) (some (.row [.slice none 0 0] true)) = G at *
  refine rcall_quiet rfl (forest_Good va u _ _ hl ha1) ?_
  cases cg : goodF u
  · rw [show addOk u i k = false by simp [addOk, cg]]
    simp (maxSteps := 1000000) (disch := first | assumption | omega | rfl | decide | simp only [fitsR, Bool.and_self]) [↓rules, rules, ↓rulesDp, rulesDq, lit_u64, Int.ofNat_inj, stops, q_int, q_bool, q_S_int, q_forest_Forest, hG1]
    exact sdone_ret (v := .tuple #[fv (.slice none 0 0), .bool false]) (by simp (maxSteps := 1000000) (disch := first | assumption | omega | rfl | decide | simp only [fitsR, Bool.and_self]) [↓rules, rules, ↓rulesDp, rulesDq, lit_u64, Int.ofNat_inj, stops, aResults, aRes, q_int, q_bool, q_S_int, q_forest_Forest]) ⟨_, rfl, Or.inl ⟨rfl, rfl⟩, k1.put (by omega) (by omega) _⟩
  by_cases c1 : i < 0
  · rw [show addOk u i k = false by simp [addOk]; intro _ h; omega]
    simp (maxSteps := 1000000) (disch := first | assumption | omega | rfl | decide | simp only [fitsR, Bool.and_self]) [↓rules, rules, ↓rulesDp, rulesDq, lit_u64, Int.ofNat_inj, stops, q_int, q_bool, q_S_int, q_forest_Forest, hG1, c1]
    exact sdone_ret (v := .tuple #[fv (.slice none 0 0), .bool false]) (by simp (maxSteps := 1000000) (disch := first | assumption | omega | rfl | decide | simp only [fitsR, Bool.and_self]) [↓rules, rules, ↓rulesDp, rulesDq, lit_u64, Int.ofNat_inj, stops, aResults, aRes, q_int, q_bool, q_S_int, q_forest_Forest]) ⟨_, rfl, Or.inl ⟨rfl, rfl⟩, k1.put (by omega) (by omega) _⟩
  by_cases c2 : (u.length : Int) ≤ i
  · rw [show addOk u i k = false by simp [addOk]; intro _ _ h; omega]
    simp (maxSteps := 1000000) (disch := first | assumption | omega | rfl | decide | simp only [fitsR, Bool.and_self]) [↓rules, rules, ↓rulesDp, rulesDq, lit_u64, Int.ofNat_inj, stops, q_int, q_bool, q_S_int, q_forest_Forest, hG0, hG1, c1, c2, hva]
    exact sdone_ret (v := .tuple #[fv (.slice none 0 0), .bool false]) (by simp (maxSteps := 1000000) (disch := first | assumption | omega | rfl | decide | simp only [fitsR, Bool.and_self]) [↓rules, rules, ↓rulesDp, rulesDq, lit_u64, Int.ofNat_inj, stops, aResults, aRes, q_int, q_bool, q_S_int, q_forest_Forest]) ⟨_, rfl, Or.inl ⟨rfl, rfl⟩, k1.put (by omega) (by omega) _⟩
  simp (maxSteps := 1000000) (disch := first | assumption | omega | rfl | decide | simp only [fitsR, Bool.and_self]) [↓rules, rules, ↓rulesDp, rulesDq, lit_u64, Int.ofNat_inj, stops, q_int, q_bool, q_S_int, q_forest_Forest, hG0, hG1, c1, c2, hva]
  rw [← hva]
  refine rcall_quiet rfl (forest_is va u i _ _ hl ha1) ?_
  cases c3 : isF u i
  case true =>
    rw [show addOk u i k = false by simp [addOk, c3]]
    simp (maxSteps := 1000000) (disch := first | assumption | omega | rfl | decide | simp only [fitsR, Bool.and_self]) [↓rules, rules, ↓rulesDp, rulesDq, lit_u64, Int.ofNat_inj, stops, q_int, q_bool, q_S_int, q_forest_Forest, hG1]
    exact sdone_ret (v := .tuple #[fv (.slice none 0 0), .bool false]) (by simp (maxSteps := 1000000) (disch := first | assumption | omega | rfl | decide | simp only [fitsR, Bool.and_self]) [↓rules, rules, ↓rulesDp, rulesDq, lit_u64, Int.ofNat_inj, stops, aResults, aRes, q_int, q_bool, q_S_int, q_forest_Forest]) ⟨_, rfl, Or.inl ⟨rfl, rfl⟩, k1.put (by omega) (by omega) _⟩
  have hset : ∀ ok : addOk u i k = true, True := fun _ => trivial
  by_cases c4 : k = -1
  · rw [show addOk u i k = true by simp [addOk, cg, c3, c4]; omega]
    simp (maxSteps := 1000000) (disch := first | assumption | omega | rfl | decide | simp only [fitsR, Bool.and_self]) [↓rules, rules, ↓rulesDp, rulesDq, lit_u64, Int.ofNat_inj, stops, q_int, q_bool, q_S_int, q_forest_Forest, hG0, c4]
    refine rcall_spec (forest_clone va u _ _ k1.dom hl ha1) rfl (fun _ h => h.elim) rfl fun r g1 n1 ⟨V, hr, r1, q1⟩ => ?_
    subst hr
    have l1 := q1.le
    have hg0 : g1 n = some (.row [va] true) := by rw [q1.same _ (by omega)]; exact hG0
    have hg1 : g1 (n + 1) = some (.row [.slice none 0 0] true) := by rw [q1.same _ (by omega)]; exact hG1
    obtain ⟨q, rfl⟩ : ∃ q : Nat, i = q := ⟨i.toNat, by omega⟩
    rcases r1 with ⟨rfl, hnil⟩ | ⟨bV, hbV, rfl, hgV⟩
    · subst hnil; exact absurd c2 (by simp)
    have hbm := (k1.trans q1).dom bV (by rw [hgV]; simp)
    have n1 : bV ≠ n := by omega
    have n2 : bV ≠ n + 1 := by omega
    have c2' : (q : Int) < u.length := by omega
    have c2'' : q + 1 ≤ u.length := by omega
    simp (maxSteps := 1000000) (disch := first | assumption | omega | rfl | decide | simp only [fitsR, Bool.and_self]) [↓rules, rules, ↓rulesDp, rulesDq, lit_u64, Int.ofNat_inj, stops, q_int, q_bool, q_S_int, q_forest_Forest, hg0, hg1, hgV, n1, n2, c2', c2'']
    refine ⟨by omega, ?_⟩
    refine sdone_ret (v := .tuple #[fv (.slice (some ⟨bV, 0, none⟩) u.length 1), .bool true]) (by simp (maxSteps := 1000000) (disch := first | assumption | omega | rfl | decide | simp only [fitsR, Bool.and_self]) [↓rules, rules, ↓rulesDp, rulesDq, lit_u64, Int.ofNat_inj, stops, aResults, aRes, q_int, q_bool, q_S_int, q_forest_Forest]) ⟨_, rfl, Or.inr ⟨bV, by omega, by simp [addF], ?_⟩, (by repeat first | exact (k1.trans q1) | refine Kept.new ?_ _ | refine Kept.drop ?_ (by omega) | refine Kept.put ?_ (by omega) (by omega) _ | refine Kept.skip ?_)⟩
    simp only [gset]
    rw [if_neg n2, if_pos trivial, spliceI _ _ _ (by omega)]
    simp [addF]
  · simp (maxSteps := 1000000) (disch := first | assumption | omega | rfl | decide | simp only [fitsR, Bool.and_self]) [↓rules, rules, ↓rulesDp, rulesDq, lit_u64, Int.ofNat_inj, stops, q_int, q_bool, q_S_int, q_forest_Forest, hG0, c4]
    refine rcall_quiet rfl (forest_is va u k _ _ hl ha1) ?_
    cases c5 : isF u k
    · rw [show addOk u i k = false by simp [addOk, c4, c5]]
      simp (maxSteps := 1000000) (disch := first | assumption | omega | rfl | decide | simp only [fitsR, Bool.and_self]) [↓rules, rules, ↓rulesDp, rulesDq, lit_u64, Int.ofNat_inj, stops, q_int, q_bool, q_S_int, q_forest_Forest, hG1]
      exact sdone_ret (v := .tuple #[fv (.slice none 0 0), .bool false]) (by simp (maxSteps := 1000000) (disch := first | assumption | omega | rfl | decide | simp only [fitsR, Bool.and_self]) [↓rules, rules, ↓rulesDp, rulesDq, lit_u64, Int.ofNat_inj, stops, aResults, aRes, q_int, q_bool, q_S_int, q_forest_Forest]) ⟨_, rfl, Or.inl ⟨rfl, rfl⟩, k1.put (by omega) (by omega) _⟩
    · rw [show addOk u i k = true by simp [addOk, cg, c3, c5]; omega]
      simp (maxSteps := 1000000) (disch := first | assumption | omega | rfl | decide | simp only [fitsR, Bool.and_self]) [↓rules, rules, ↓rulesDp, rulesDq, lit_u64, Int.ofNat_inj, stops, q_int, q_bool, q_S_int, q_forest_Forest, hG0]
      refine rcall_spec (forest_clone va u _ _ k1.dom hl ha1) rfl (fun _ h => h.elim) rfl fun r g1 n1 ⟨V, hr, r1, q1⟩ => ?_
      subst hr
      have l1 := q1.le
      have hg0 : g1 n = some (.row [va] true) := by rw [q1.same _ (by omega)]; exact hG0
      have hg1 : g1 (n + 1) = some (.row [.slice none 0 0] true) := by rw [q1.same _ (by omega)]; exact hG1
      obtain ⟨q, rfl⟩ : ∃ q : Nat, i = q := ⟨i.toNat, by omega⟩
      rcases r1 with ⟨rfl, hnil⟩ | ⟨bV, hbV, rfl, hgV⟩
      · subst hnil; exact absurd c2 (by simp)
      have hbm := (k1.trans q1).dom bV (by rw [hgV]; simp)
      have n1 : bV ≠ n := by omega
      have n2 : bV ≠ n + 1 := by omega
      have c2' : (q : Int) < u.length := by omega
      have c2'' : q + 1 ≤ u.length := by omega
      simp (maxSteps := 1000000) (disch := first | assumption | omega | rfl | decide | simp only [fitsR, Bool.and_self]) [↓rules, rules, ↓rulesDp, rulesDq, lit_u64, Int.ofNat_inj, stops, q_int, q_bool, q_S_int, q_forest_Forest, hg0, hg1, hgV, n1, n2, c2', c2'']
      refine ⟨by omega, ?_⟩
      refine sdone_ret (v := .tuple #[fv (.slice (some ⟨bV, 0, none⟩) u.length 1), .bool true]) (by simp (maxSteps := 1000000) (disch := first | assumption | omega | rfl | decide | simp only [fitsR, Bool.and_self]) [↓rules, rules, ↓rulesDp, rulesDq, lit_u64, Int.ofNat_inj, stops, aResults, aRes, q_int, q_bool, q_S_int, q_forest_Forest]) ⟨_, rfl, Or.inr ⟨bV, by omega, by simp [addF], ?_⟩, (by repeat first | exact (k1.trans q1) | refine Kept.new ?_ _ | refine Kept.drop ?_ (by omega) | refine Kept.put ?_ (by omega) (by omega) _ | refine Kept.skip ?_)⟩
      simp only [gset]
      rw [if_neg n2, if_pos trivial, spliceI _ _ _ (by omega)]
      simp [addF]
end Go.Proofs.Ytfcbhgiccgommaa.F10

namespace Go.Proofs.Ytfcbhgiccgommaa.F10
open Go Go.Proofs Go.Proofs.YtfcbhgiccgommaaAbs
variable [Base]
set_option maxHeartbeats 4000000
set_option maxRecDepth 100000
theorem setL_take (u ks : List Int) (v : Int) (j : Nat) (h : j < ks.length) : setL u (ks.take (j + 1)) v = (setL u (ks.take j) v).set ks[j].toNat v := by
  unfold setL
  rw [take_snoc ks j h, List.foldl_append]; rfl
theorem gset_eta {g : AMem} {b : Nat} {o : Option AObj} (h : g b = o) : gset g b o = g := by
  funext i
  unfold gset
  split
  · rename_i e; rw [e, h]
  · rfl
theorem forest_Drop (va : Value) (u : List Int) (i : Int) (g : AMem) (n : Nat) (hdom : ∀ i, g i ≠ none → i < n) (hl : u.length ≤ 100000) (ha : rdI g va u) :
    FnS Try.prog f_forest_Drop [fv va, .int .i64 i] g n (fun _ => False) fun v g' n' => ∃ V, v = .tuple #[fv V, .bool (mayF u i)] ∧ Gi n g' V (if mayF u i = true then dropF u i else []) ∧ Kept g n g' n' := by
  refine fnS_of_rwp t_forest_Drop hm rfl hdom ?_
  have k1 := ((Kept.refl hdom).new (.row [va] true)).new (.row [.slice none 0 0] true)
  have ha1 := ha.ext (k1.ext hdom)
  simp (maxSteps := 1000000) (disch := first | assumption | omega | rfl | decide | simp only [fitsR, Bool.and_self]) [↓rules, rules, ↓rulesDp, rulesDq, lit_u64, Int.ofNat_inj, stops, rc_forest_Drop, q_int, q_bool, q_S_int, q_forest_Forest]
  have hG0 : gset (gset g n (some (.row [va] true))) (n + 1) (some (.row [.slice none 0 0] true)) n = some (.row [va] true) := by simp [gset]
  have hG1 : gset (gset g n (some (.row [va] true))) (n + 1) (some (.row [.slice none 0 0] true)) (n + 1) = some (.row [.slice none 0 0] true) := by simp [gset]
  generalize hG : gset (gset g n (some (.row [va] true))) (n + 1) (some (.row [.slice none 0 0] true)) = G at *
  refine rcall_quiet rfl (forest_may va u i _ _ hl ha1) ?_
  cases cg : mayF u i
  · simp (maxSteps := 1000000) (disch := first | assumption | omega | rfl | decide | simp only [fitsR, Bool.and_self]) [↓rules, rules, ↓rulesDp, rulesDq, lit_u64, Int.ofNat_inj, stops, q_int, q_bool, q_S_int, q_forest_Forest, hG1]
    exact sdone_ret (v := .tuple #[fv (.slice none 0 0), .bool false]) (by simp (maxSteps := 1000000) (disch := first | assumption | omega | rfl | decide | simp only [fitsR, Bool.and_self]) [↓rules, rules, ↓rulesDp, rulesDq, lit_u64, Int.ofNat_inj, stops, aResults, aRes, q_int, q_bool, q_S_int, q_forest_Forest]) ⟨_, rfl, Or.inl ⟨rfl, rfl⟩, k1.put (by omega) (by omega) _⟩
  obtain ⟨cg, ci⟩ := mayF_iff.1 cg
  have hr := good_rk cg
  obtain ⟨a0, a1, a2⟩ := isF_iff.1 ci
  obtain ⟨q, rfl⟩ : ∃ q : Nat, i = q := ⟨i.toNat, by omega⟩
  have hq : q < u.length := by omega
  have hself : upAt u q ≠ q := fun e => by have := (hr.step q ci (by omega)).2; rw [e] at this; omega
  simp (maxSteps := 1000000) (disch := first | assumption | omega | rfl | decide | simp only [fitsR, Bool.and_self]) [↓rules, rules, ↓rulesDp, rulesDq, lit_u64, Int.ofNat_inj, stops, q_int, q_bool, q_S_int, q_forest_Forest, hG0]
  refine rcall_spec (forest_clone va u _ _ k1.dom hl ha1) rfl (fun _ h => h.elim) rfl fun r g1 n1 ⟨V, hr1, r1, q1⟩ => ?_
  subst hr1
  have l1 := q1.le
  have hg0 : g1 n = some (.row [va] true) := by rw [q1.same _ (by omega)]; exact hG0
  have hg1 : g1 (n + 1) = some (.row [.slice none 0 0] true) := by rw [q1.same _ (by omega)]; exact hG1
  have k2 := k1.trans q1
  rcases r1 with ⟨rfl, hnil⟩ | ⟨bV, hbV, rfl, hgV⟩
  · subst hnil; exact absurd a1 (by simp)
  have hbm := k2.dom bV (by rw [hgV]; simp)
  have x1 : bV ≠ n := by omega
  have x2 : bV ≠ n + 1 := by omega
  simp (maxSteps := 1000000) (disch := first | assumption | omega | rfl | decide | simp only [fitsR, Bool.and_self]) [↓rules, rules, ↓rulesDp, rulesDq, lit_u64, Int.ofNat_inj, stops, q_int, q_bool, q_S_int, q_forest_Forest, hg0]
  have k3 := k2.put (b := n) (by omega) (by omega) (.row [.slice (some ⟨bV, 0, none⟩) u.length 1] true)
  have hH0 : gset g1 n (some (.row [.slice (some ⟨bV, 0, none⟩) u.length 1] true)) n = some (.row [.slice (some ⟨bV, 0, none⟩) u.length 1] true) := by simp [gset]
  have hH1 : gset g1 n (some (.row [.slice (some ⟨bV, 0, none⟩) u.length 1] true)) (n + 1) = some (.row [.slice none 0 0] true) := by simp [gset, hg1]
  have hHV : gset g1 n (some (.row [.slice (some ⟨bV, 0, none⟩) u.length 1] true)) bV = some (.row (cI u) true) := by simp [gset, x1, hgV]
  generalize hH : gset g1 n (some (.row [.slice (some ⟨bV, 0, none⟩) u.length 1] true)) = H at *
  have hav : rdI H (.slice (some ⟨bV, 0, none⟩) u.length 1) u := Gi.rd (n := 0) (Or.inr ⟨bV, Nat.zero_le _, rfl, hHV⟩)
  refine rcall_spec (forest_of _ u q _ _ k3.dom hl hav) rfl (fun _ h => h.elim) rfl fun Vk g2 n2 ⟨r2, q2⟩ => ?_
  have k4 := k3.trans q2
  have l2 := q2.le
  have hI0 : g2 n = some (.row [.slice (some ⟨bV, 0, none⟩) u.length 1] true) := by rw [q2.same _ (by omega)]; exact hH0
  have hI1 : g2 (n + 1) = some (.row [.slice none 0 0] true) := by rw [q2.same _ (by omega)]; exact hH1
  have hIV : g2 bV = some (.row (cI u) true) := by rw [q2.same _ (by omega)]; exact hHV
  have hkl : (kidsF u q).length ≤ u.length := kidsU_len u q u.length
  have hks := kids_in (u := u) (i := (q : Int))
  have hqk : (q : Int) ∉ kidsF u q := fun h => hself (mem_kids.1 h).2.2
  generalize hkk : kidsF u q = ks at *
  obtain ⟨ka, ke, hVk⟩ := r2.rd.form
  simp (maxSteps := 1000000) (disch := first | assumption | omega | rfl | decide | simp only [fitsR, Bool.and_self]) [↓rules, rules, ↓rulesDp, rulesDq, lit_u64, Int.ofNat_inj, stops, q_int, q_bool, q_S_int, q_forest_Forest, hVk]
  rw [← hVk]
  refine rwp_loop (fun j l g' n' => ∃ k, j = ks.length - k ∧ k ≤ ks.length ∧ g' = gset g2 bV (some (.row (cI (setL u (ks.take k) (upAt u q))) true)) ∧ n' = n2 ∧ l = [(1, .int .i64 q), (2, .pointer (some ⟨n, 0, none⟩)), (4, .pointer (some ⟨n + 1, 0, none⟩)), (17, Vk), (18, .int .i64 ks.length), (19, .int .i64 k)]) ?_ (k := ks.length) ?_
  · rintro j l g' n' ⟨k, rfl, hk, rfl, rfl, rfl⟩
    have hgl := setL_len (upAt u q) (ks.take k) u
    by_cases hlt : (k : Int) < (ks.length : Int)
    case neg =>
      have : k = ks.length := by omega
      subst this
      rw [List.take_length] at hgl ⊢
      have c1 : (q : Int) < u.length := a1
      have c2 : q + 1 ≤ u.length := hq
      simp (maxSteps := 1000000) (disch := first | assumption | omega | rfl | decide | simp only [fitsR, Bool.and_self]) [↓rules, rules, ↓rulesDp, rulesDq, lit_u64, Int.ofNat_inj, stops, rc_forest_Dropl0, q_int, q_bool, q_S_int, q_forest_Forest, hlt, hI0, hI1, x1, x2, c1, c2, hgl]
      refine ⟨by omega, sdone_ret (v := .tuple #[fv (.slice (some ⟨bV, 0, none⟩) u.length 1), .bool true]) (by simp (maxSteps := 1000000) (disch := first | assumption | omega | rfl | decide | simp only [fitsR, Bool.and_self]) [↓rules, rules, ↓rulesDp, rulesDq, lit_u64, Int.ofNat_inj, stops, aResults, aRes, q_int, q_bool, q_S_int, q_forest_Forest]) ⟨_, rfl, Or.inr ⟨bV, by omega, by simp, ?_⟩, (by repeat first | exact k4 | refine Kept.new ?_ _ | refine Kept.drop ?_ (by omega) | refine Kept.put ?_ (by omega) (by omega) _ | refine Kept.skip ?_)⟩⟩
      simp only [gset]
      rw [if_neg x2, if_pos trivial, spliceI _ _ _ (by omega)]
      simp [dropF, hkk]
    have hlt1 : k < ks.length := by omega
    obtain ⟨b1, o1, h1, _, h2⟩ := (r2.put (x := bV) (n := 0) (o := some (.row (cI (setL u (ks.take k) (upAt u q))) true)) (by omega) (by omega)).rd.one hlt1
    have e2 := h2 _ (Ext.refl _) Try.prog _ ta_int
    obtain ⟨y0, y1⟩ := hks _ (List.getElem_mem hlt1)
    obtain ⟨p, hp⟩ : ∃ p : Nat, ks[k] = p := ⟨ks[k].toNat, by omega⟩
    have hst := setL_take u ks (upAt u q) k hlt1
    rw [hp] at e2 y1 hst
    have w1 : IntKind.i64.wrap ((k : Int) + 1) = ((k + 1 : Nat) : Int) := by rw [wrap_i64 (by omega) (by omega)]; omega
    have hq2 : upAt (setL u (ks.take k) (upAt u q)) q = upAt u q := by
      rw [upAt_setL _ (by omega) _ _ (fun j hj => hks j (List.mem_of_mem_take hj)), if_neg (fun h => hqk (List.mem_of_mem_take h))]
    generalize hS : setL u (ks.take k) (upAt u q) = S at *
    rw [upAt_nat (by omega)] at hq2
    have c1 : (q : Int) < u.length := a1
    have c3 : p + 1 ≤ u.length := by omega
    have hnth : nth (cI S) q = some (.int .i64 (upAt u q)) := by
      rw [← nth_eq, cI, List.getElem?_map, List.getElem?_eq_getElem (by omega), hq2]; rfl
    simp (maxSteps := 1000000) (disch := first | assumption | omega | rfl | decide | simp only [fitsR, Bool.and_self]) [↓rules, rules, ↓rulesDp, rulesDq, lit_u64, Int.ofNat_inj, stops, rc_forest_Dropl0, q_int, q_bool, q_S_int, q_forest_Forest, hlt, h1, e2, hI0, hI1, x1, x2, y1, c1, c3, hgl, hnth, w1]
    refine ⟨by omega, ks.length - (k + 1), by omega, k + 1, rfl, by omega, ?_, by omega⟩
    rw [hst, spliceI S p _ (by omega)]; rfl
  · exact ⟨0, by simp, by simp, by rw [List.take_zero]; exact (gset_eta hIV).symm, rfl, by rfl⟩
def moveOk (u : List Int) (i k : Int) : Bool := mayF u i && (decide (0 ≤ k ∧ k < u.length) && !isF u k)
theorem forest_Move (va : Value) (u : List Int) (i k : Int) (g : AMem) (n : Nat) (hdom : ∀ i, g i ≠ none → i < n) (hl : u.length ≤ 100000) (ha : rdI g va u) :
    FnS Try.prog f_forest_Move [fv va, .int .i64 i, .int .i64 k] g n (fun _ => False) fun v g' n' => ∃ V, v = .tuple #[fv V, .bool (moveOk u i k)] ∧ Gi n g' V (if moveOk u i k = true then moveF u i k else []) ∧ Kept g n g' n' := by
  refine fnS_of_rwp t_forest_Move hm rfl hdom ?_
  have k1 := ((Kept.refl hdom).new (.row [va] true)).new (.row [.slice none 0 0] true)
  have ha1 := ha.ext (k1.ext hdom)
  simp (maxSteps := 1000000) (disch := first | assumption | omega | rfl | decide | simp only [fitsR, Bool.and_self]) [↓rules, rules, ↓rulesDp, rulesDq, lit_u64, Int.ofNat_inj, stops, rc_forest_Move, q_int, q_bool, q_S_int, q_forest_Forest]
  have hG0 : gset (gset g n (some (.row [va] true))) (n + 1) (some (.row [.slice none 0 0] true)) n = some (.row [va] true) := by simp [gset]
  have hG1 : gset (gset g n (some (.row [va] true))) (n + 1) (some (.row [.slice none 0 0] true)) (n + 1) = some (.row [.slice none 0 0] true) := by simp [gset]
  generalize hG : gset (gset g n (some (.row [va] true))) (n + 1) (some (.row [.slice none 0 0] true)) = G at *
  refine rcall_quiet rfl (forest_may va u i _ _ hl ha1) ?_
  cases cg : mayF u i
  · rw [show moveOk u i k = false by simp [moveOk, cg]]
    simp (maxSteps := 1000000) (disch := first | assumption | omega | rfl | decide | simp only [fitsR, Bool.and_self]) [↓rules, rules, ↓rulesDp, rulesDq, lit_u64, Int.ofNat_inj, stops, q_int, q_bool, q_S_int, q_forest_Forest, hG1]
    exact sdone_ret (v := .tuple #[fv (.slice none 0 0), .bool false]) (by simp (maxSteps := 1000000) (disch := first | assumption | omega | rfl | decide | simp only [fitsR, Bool.and_self]) [↓rules, rules, ↓rulesDp, rulesDq, lit_u64, Int.ofNat_inj, stops, aResults, aRes, q_int, q_bool, q_S_int, q_forest_Forest]) ⟨_, rfl, Or.inl ⟨rfl, rfl⟩, k1.put (by omega) (by omega) _⟩
  have cm := cg
  obtain ⟨cg, ci⟩ := mayF_iff.1 cg
  have hr := good_rk cg
  obtain ⟨a0, a1, a2⟩ := isF_iff.1 ci
  obtain ⟨q, rfl⟩ : ∃ q : Nat, i = q := ⟨i.toNat, by omega⟩
  have hq : q < u.length := by omega
  have hself : upAt u q ≠ q := fun e => by have := (hr.step q ci (by omega)).2; rw [e] at this; omega
  obtain ⟨va0, va1, hva⟩ := ha.form
  by_cases d1 : k < 0
  · rw [show moveOk u q k = false by simp [moveOk]; intro _ h; omega]
    simp (maxSteps := 1000000) (disch := first | assumption | omega | rfl | decide | simp only [fitsR, Bool.and_self]) [↓rules, rules, ↓rulesDp, rulesDq, lit_u64, Int.ofNat_inj, stops, q_int, q_bool, q_S_int, q_forest_Forest, hG1, d1]
    exact sdone_ret (v := .tuple #[fv (.slice none 0 0), .bool false]) (by simp (maxSteps := 1000000) (disch := first | assumption | omega | rfl | decide | simp only [fitsR, Bool.and_self]) [↓rules, rules, ↓rulesDp, rulesDq, lit_u64, Int.ofNat_inj, stops, aResults, aRes, q_int, q_bool, q_S_int, q_forest_Forest]) ⟨_, rfl, Or.inl ⟨rfl, rfl⟩, k1.put (by omega) (by omega) _⟩
  by_cases d2 : (u.length : Int) ≤ k
  · rw [show moveOk u q k = false by simp [moveOk]; intro _ _ h; omega]
    simp (maxSteps := 1000000) (disch := first | assumption | omega | rfl | decide | simp only [fitsR, Bool.and_self]) [↓rules, rules, ↓rulesDp, rulesDq, lit_u64, Int.ofNat_inj, stops, q_int, q_bool, q_S_int, q_forest_Forest, hG0, hG1, d1, d2, hva]
    exact sdone_ret (v := .tuple #[fv (.slice none 0 0), .bool false]) (by simp (maxSteps := 1000000) (disch := first | assumption | omega | rfl | decide | simp only [fitsR, Bool.and_self]) [↓rules, rules, ↓rulesDp, rulesDq, lit_u64, Int.ofNat_inj, stops, aResults, aRes, q_int, q_bool, q_S_int, q_forest_Forest]) ⟨_, rfl, Or.inl ⟨rfl, rfl⟩, k1.put (by omega) (by omega) _⟩
  simp (maxSteps := 1000000) (disch := first | assumption | omega | rfl | decide | simp only [fitsR, Bool.and_self]) [↓rules, rules, ↓rulesDp, rulesDq, lit_u64, Int.ofNat_inj, stops, q_int, q_bool, q_S_int, q_forest_Forest, hG0, hG1, d1, d2, hva]
  rw [← hva]
  refine rcall_quiet rfl (forest_is va u k _ _ hl ha1) ?_
  cases d3 : isF u k
  case true =>
    rw [show moveOk u q k = false by simp [moveOk, d3]]
    simp (maxSteps := 1000000) (disch := first | assumption | omega | rfl | decide | simp only [fitsR, Bool.and_self]) [↓rules, rules, ↓rulesDp, rulesDq, lit_u64, Int.ofNat_inj, stops, q_int, q_bool, q_S_int, q_forest_Forest, hG1]
    exact sdone_ret (v := .tuple #[fv (.slice none 0 0), .bool false]) (by simp (maxSteps := 1000000) (disch := first | assumption | omega | rfl | decide | simp only [fitsR, Bool.and_self]) [↓rules, rules, ↓rulesDp, rulesDq, lit_u64, Int.ofNat_inj, stops, aResults, aRes, q_int, q_bool, q_S_int, q_forest_Forest]) ⟨_, rfl, Or.inl ⟨rfl, rfl⟩, k1.put (by omega) (by omega) _⟩
  rw [show moveOk u q k = true by simp [moveOk, cm, d3]; omega]
  obtain ⟨z, rfl⟩ : ∃ z : Nat, k = z := ⟨k.toNat, by omega⟩
  simp (maxSteps := 1000000) (disch := first | assumption | omega | rfl | decide | simp only [fitsR, Bool.and_self]) [↓rules, rules, ↓rulesDp, rulesDq, lit_u64, Int.ofNat_inj, stops, q_int, q_bool, q_S_int, q_forest_Forest, hG0]
  refine rcall_spec (forest_clone va u _ _ k1.dom hl ha1) rfl (fun _ h => h.elim) rfl fun r g1 n1 ⟨V, hr1, r1, q1⟩ => ?_
  subst hr1
  have l1 := q1.le
  have hg0 : g1 n = some (.row [va] true) := by rw [q1.same _ (by omega)]; exact hG0
  have hg1 : g1 (n + 1) = some (.row [.slice none 0 0] true) := by rw [q1.same _ (by omega)]; exact hG1
  have k2 := k1.trans q1
  rcases r1 with ⟨rfl, hnil⟩ | ⟨bV, hbV, rfl, hgV⟩
  · subst hnil; exact absurd a1 (by simp)
  have hbm := k2.dom bV (by rw [hgV]; simp)
  have x1 : bV ≠ n := by omega
  have x2 : bV ≠ n + 1 := by omega
  simp (maxSteps := 1000000) (disch := first | assumption | omega | rfl | decide | simp only [fitsR, Bool.and_self]) [↓rules, rules, ↓rulesDp, rulesDq, lit_u64, Int.ofNat_inj, stops, q_int, q_bool, q_S_int, q_forest_Forest, hg0]
  have k3 := k2.put (b := n) (by omega) (by omega) (.row [.slice (some ⟨bV, 0, none⟩) u.length 1] true)
  have hH0 : gset g1 n (some (.row [.slice (some ⟨bV, 0, none⟩) u.length 1] true)) n = some (.row [.slice (some ⟨bV, 0, none⟩) u.length 1] true) := by simp [gset]
  have hH1 : gset g1 n (some (.row [.slice (some ⟨bV, 0, none⟩) u.length 1] true)) (n + 1) = some (.row [.slice none 0 0] true) := by simp [gset, hg1]
  have hHV : gset g1 n (some (.row [.slice (some ⟨bV, 0, none⟩) u.length 1] true)) bV = some (.row (cI u) true) := by simp [gset, x1, hgV]
  generalize hH : gset g1 n (some (.row [.slice (some ⟨bV, 0, none⟩) u.length 1] true)) = H at *
  have hav : rdI H (.slice (some ⟨bV, 0, none⟩) u.length 1) u := Gi.rd (n := 0) (Or.inr ⟨bV, Nat.zero_le _, rfl, hHV⟩)
  refine rcall_spec (forest_of _ u q _ _ k3.dom hl hav) rfl (fun _ h => h.elim) rfl fun Vk g2 n2 ⟨r2, q2⟩ => ?_
  have k4 := k3.trans q2
  have l2 := q2.le
  have hI0 : g2 n = some (.row [.slice (some ⟨bV, 0, none⟩) u.length 1] true) := by rw [q2.same _ (by omega)]; exact hH0
  have hI1 : g2 (n + 1) = some (.row [.slice none 0 0] true) := by rw [q2.same _ (by omega)]; exact hH1
  have hIV : g2 bV = some (.row (cI u) true) := by rw [q2.same _ (by omega)]; exact hHV
  have hkl : (kidsF u q).length ≤ u.length := kidsU_len u q u.length
  have hks := kids_in (u := u) (i := (q : Int))
  have hqk : (q : Int) ∉ kidsF u q := fun h => hself (mem_kids.1 h).2.2
  generalize hkk : kidsF u q = ks at *
  obtain ⟨ka, ke, hVk⟩ := r2.rd.form
  simp (maxSteps := 1000000) (disch := first | assumption | omega | rfl | decide | simp only [fitsR, Bool.and_self]) [↓rules, rules, ↓rulesDp, rulesDq, lit_u64, Int.ofNat_inj, stops, q_int, q_bool, q_S_int, q_forest_Forest, hVk]
  rw [← hVk]
  refine rwp_loop (fun j l g' n' => ∃ k, j = ks.length - k ∧ k ≤ ks.length ∧ g' = gset g2 bV (some (.row (cI (setL u (ks.take k) z)) true)) ∧ n' = n2 ∧ l = [(1, .int .i64 q), (2, .int .i64 z), (3, .pointer (some ⟨n, 0, none⟩)), (6, .pointer (some ⟨n + 1, 0, none⟩)), (35, Vk), (36, .int .i64 ks.length), (37, .int .i64 k)]) ?_ (k := ks.length) ?_
  · rintro j l g' n' ⟨k, rfl, hk, rfl, rfl, rfl⟩
    have hgl := setL_len z (ks.take k) u
    by_cases hlt : (k : Int) < (ks.length : Int)
    case neg =>
      have : k = ks.length := by omega
      subst this
      rw [List.take_length] at hgl ⊢
      have c1 : (q : Int) < u.length := a1
      have c2 : z + 1 ≤ u.length := by omega
      have c3 : (z : Int) < u.length := by omega
      have c4 : q + 1 ≤ u.length := hq
      have hq2 : upAt (setL u ks z) q = upAt u q := by
        rw [upAt_setL _ (by omega) _ _ hks, if_neg hqk]
      have hst : moveF u q z = ((setL u ks z).set z (upAt u q)).set q (-2) := by simp [moveF, hkk]
      generalize hS : setL u ks z = S at *
      rw [upAt_nat (by omega)] at hq2
      have hnth : nth (cI S) q = some (.int .i64 (upAt u q)) := by
        rw [← nth_eq, cI, List.getElem?_map, List.getElem?_eq_getElem (by omega), hq2]; rfl
      have hsp := spliceI S z (upAt u q) (by omega)
      have hgl2 : (S.set z (upAt u q)).length = u.length := by rw [List.length_set, hgl]
      generalize hS2 : S.set z (upAt u q) = S2 at *
      simp (maxSteps := 1000000) (disch := first | assumption | omega | rfl | decide | simp only [fitsR, Bool.and_self]) [↓rules, rules, ↓rulesDp, rulesDq, lit_u64, Int.ofNat_inj, stops, rc_forest_Movel0, q_int, q_bool, q_S_int, q_forest_Forest, hlt, hI0, hI1, x1, x2, c1, c2, c3, c4, hgl, hnth, hsp, hgl2]
      refine ⟨by omega, sdone_ret (v := .tuple #[fv (.slice (some ⟨bV, 0, none⟩) u.length 1), .bool true]) (by simp (maxSteps := 1000000) (disch := first | assumption | omega | rfl | decide | simp only [fitsR, Bool.and_self]) [↓rules, rules, ↓rulesDp, rulesDq, lit_u64, Int.ofNat_inj, stops, aResults, aRes, q_int, q_bool, q_S_int, q_forest_Forest]) ⟨_, rfl, Or.inr ⟨bV, by omega, by simp, ?_⟩, (by repeat first | exact k4 | refine Kept.new ?_ _ | refine Kept.drop ?_ (by omega) | refine Kept.put ?_ (by omega) (by omega) _ | refine Kept.skip ?_)⟩⟩
      simp only [gset]
      rw [if_neg x2, if_pos trivial, spliceI _ _ _ (by omega), hst]
    have hlt1 : k < ks.length := by omega
    obtain ⟨b1, o1, h1, _, h2⟩ := (r2.put (x := bV) (n := 0) (o := some (.row (cI (setL u (ks.take k) z)) true)) (by omega) (by omega)).rd.one hlt1
    have e2 := h2 _ (Ext.refl _) Try.prog _ ta_int
    obtain ⟨y0, y1⟩ := hks _ (List.getElem_mem hlt1)
    obtain ⟨p, hp⟩ : ∃ p : Nat, ks[k] = p := ⟨ks[k].toNat, by omega⟩
    have hst := setL_take u ks z k hlt1
    rw [hp] at e2 y1 hst
    have w1 : IntKind.i64.wrap ((k : Int) + 1) = ((k + 1 : Nat) : Int) := by rw [wrap_i64 (by omega) (by omega)]; omega
    generalize hS : setL u (ks.take k) z = S at *
    have c3 : p + 1 ≤ u.length := by omega
    simp (maxSteps := 1000000) (disch := first | assumption | omega | rfl | decide | simp only [fitsR, Bool.and_self]) [↓rules, rules, ↓rulesDp, rulesDq, lit_u64, Int.ofNat_inj, stops, rc_forest_Movel0, q_int, q_bool, q_S_int, q_forest_Forest, hlt, h1, e2, hI0, hI1, x1, x2, y1, c3, hgl, w1]
    refine ⟨by omega, ks.length - (k + 1), by omega, k + 1, rfl, by omega, ?_, by omega⟩
    rw [hst, spliceI S p _ (by omega)]; rfl
  · exact ⟨0, by simp, by simp, by rw [List.take_zero]; exact (gset_eta hIV).symm, rfl, by rfl⟩
end Go.Proofs.Ytfcbhgiccgommaa.F10

namespace Go.Proofs.Ytfcbhgiccgommaa.F10
open Go Go.Proofs
set_option maxRecDepth 100000
def lays189_ren : Go.Shelf.Ren :=
{
  f := fun x => match x with
    | 189 => 33
    | 125 => 38
    | 257 => 37
    | 128 => 49
    | 129 => 50
    | 294 => 40
    | 295 => 41
    | 296 => 42
    | 297 => 43
    | 298 => 44
    | 299 => 45
    | 216 => 46
    | 300 => 47
    | 301 => 48
    | 328 => 51
    | 329 => 52
    | 330 => 53
    | 331 => 54
    | 332 => 55
    | 215 => 56
    | 343 => 57
    | n => n,
  t := fun x => match x with
    | 28 => 22
    | 3 => 3
    | 46 => 54
    | 0 => 0
    | 51 => 64
    | 53 => 66
    | 4 => 4
    | 183 => 57
    | 182 => 56
    | 131 => 61
    | 5 => 5
    | 9 => 9
    | 218 => 67
    | 222 => 71
    | 228 => 73
    | 229 => 74
    | n => n,
  g := fun n => n }
theorem lays189 : Lays.n189 Try.prog lays189_ren :=
  { mixed := rfl, f125 := Try.func38.trans (congrArg some (by kernel_rfl)), f128 := Try.func49.trans (congrArg some (by kernel_rfl)), f129 := Try.func50.trans (congrArg some (by kernel_rfl)), f189 := Try.func33.trans (congrArg some (by kernel_rfl)), f215 := Try.func56.trans (congrArg some (by kernel_rfl)), f216 := Try.func46.trans (congrArg some (by kernel_rfl)), f257 := Try.func37.trans (congrArg some (by kernel_rfl)), f294 := Try.func40.trans (congrArg some (by kernel_rfl)), f295 := Try.func41.trans (congrArg some (by kernel_rfl)), f296 := Try.func42.trans (congrArg some (by kernel_rfl)), f297 := Try.func43.trans (congrArg some (by kernel_rfl)), f298 := Try.func44.trans (congrArg some (by kernel_rfl)), f299 := Try.func45.trans (congrArg some (by kernel_rfl)), f300 := Try.func47.trans (congrArg some (by kernel_rfl)), f301 := Try.func48.trans (congrArg some (by kernel_rfl)), f328 := Try.func51.trans (congrArg some (by kernel_rfl)), f329 := Try.func52.trans (congrArg some (by kernel_rfl)), f330 := Try.func53.trans (congrArg some (by kernel_rfl)), f331 := Try.func54.trans (congrArg some (by kernel_rfl)), f332 := Try.func55.trans (congrArg some (by kernel_rfl)), f343 := Try.func57.trans (congrArg some (by kernel_rfl)), t0 := Try.underlying0, a0 := Try.isAgg0, z0 := Try.sizeOf0, v0 := Try.zeroValue0, t3 := Try.underlying3, a3 := Try.isAgg3, z3 := Try.sizeOf3, v3 := Try.zeroValue3, t4 := Try.underlying4, a4 := Try.isAgg4, z4 := Try.sizeOf4, v4 := Try.zeroValue4, t5 := Try.underlying5, a5 := Try.isAgg5, z5 := Try.sizeOf5, v5 := Try.zeroValue5, t9 := Try.underlying9, a9 := Try.isAgg9, z9 := Try.sizeOf9, v9 := Try.zeroValue9, t28 := Try.underlying22, a28 := Try.isAgg22, z28 := Try.sizeOf22, v28 := Try.zeroValue22, t46 := Try.underlying54, a46 := Try.isAgg54, z46 := Try.sizeOf54, v46 := Try.zeroValue54, t51 := Try.underlying64, a51 := Try.isAgg64, z51 := Try.sizeOf64, v51 := Try.zeroValue64, t53 := Try.underlying66, a53 := Try.isAgg66, z53 := Try.sizeOf66, v53 := Try.zeroValue66, t131 := Try.underlying61, a131 := Try.isAgg61, z131 := Try.sizeOf61, v131 := Try.zeroValue61, t182 := Try.underlying56, a182 := Try.isAgg56, z182 := Try.sizeOf56, v182 := Try.zeroValue56, t183 := Try.underlying57, a183 := Try.isAgg57, z183 := Try.sizeOf57, v183 := Try.zeroValue57, t218 := Try.underlying67, a218 := Try.isAgg67, z218 := Try.sizeOf67, v218 := Try.zeroValue67, t222 := Try.underlying71, a222 := Try.isAgg71, z222 := Try.sizeOf71, v222 := Try.zeroValue71, t228 := Try.underlying73, a228 := Try.isAgg73, z228 := Try.sizeOf73, v228 := Try.zeroValue73, t229 := Try.underlying74, a229 := Try.isAgg74, z229 := Try.sizeOf74, v229 := Try.zeroValue74 }
end Go.Proofs.Ytfcbhgiccgommaa.F10

namespace Go.Proofs.Ytfcbhgiccgommaa.F10
open Go Go.Proofs Go.Proofs.YtfcbhgiccgommaaAbs
variable [Base]
set_option maxHeartbeats 4000000
set_option maxRecDepth 100000
/-! ### Sorting: out of the kit's shelf -/
theorem slices_SortI {b m : Nat} {zs : List Int} {g : AMem} {n : Nat} (hg : g b = some (.row (cI zs) true)) (hm : m = zs.length) (hl : zs.length ≤ 100000) :
    FnC Try.prog f_slices_Sort_S_int_int [.slice (some ⟨b, 0, none⟩) m 1] g n (fun i => i = b) (.tuple #[]) (gset g b (some (.row (cI (sortI zs)) true))) n :=
  fnC_of_sort (by kernel_rfl) hg hm (by simp [sortI]) fun blk cap w hH hb => Any.slices_Sort_int lays189 blk 0 cap zs w hH hb (by omega)
theorem sort_nil_run : xfn Try.prog tab 100 20 f_slices_Sort_S_int_int [.slice none 0 0] (fun _ => none) 0 = some ⟨.tuple #[], fun _ => none, 0, 0, true⟩ := by kernel_rfl
theorem sort_nil (g : AMem) (n : Nat) : FnC Try.prog f_slices_Sort_S_int_int [.slice none 0 0] g n (fun _ => False) (.tuple #[]) g n :=
  FnC.closed (xfn_ok hm tabOk 100 20 _ _ _ _ _ (fun _ h => absurd rfl h) sort_nil_run).2.1 rfl rfl g n
theorem sort_Gi {m n : Nat} {g : AMem} {V : Value} {xs : List Int} (hV : Gi m g V xs) (hd : ∀ i, g i ≠ none → i < n) (hl : xs.length ≤ 100000) :
    FnS Try.prog f_slices_Sort_S_int_int [V] g n (fun i => m ≤ i) fun v g' n' => v = .tuple #[] ∧ n' = n ∧ Gi m g' V (sortI xs) ∧ (∀ i, i < m → g' i = g i) ∧ ∀ i, g' i ≠ none → i < n := by
  rcases hV with ⟨rfl, rfl⟩ | ⟨b, hb, rfl, hg⟩
  · exact ⟨_, _, _, (sort_nil g n).touches fun i _ h => h.elim, rfl, rfl, Or.inl ⟨rfl, by simp [sortI]⟩, fun _ _ => rfl, hd⟩
  · refine ⟨_, _, _, (slices_SortI hg rfl hl).touches fun i _ h => by omega, rfl, rfl, Or.inr ⟨b, hb, by simp [sortI], by simp [gset]⟩, fun i hi => by rw [gset, if_neg (by omega)], fun i hi => ?_⟩
    unfold gset at hi
    split at hi
    · rename_i e; subst e; exact hd _ (by rw [hg]; simp)
    · exact hd i hi
theorem bel_len (u : List Int) (i : Int) : (belF u i).length ≤ u.length := by
  unfold belF
  rw [List.length_map]
  exact Nat.le_trans (List.length_filter_le _ _) (by simp)
/-- All below one; nothing below what is not there. -/
def belS (u : List Int) (i : Int) : List Int := if mayF u i = true then belF u i else []
theorem forest_Below (va : Value) (u : List Int) (i : Int) (g : AMem) (n : Nat) (hdom : ∀ i, g i ≠ none → i < n) (hl : u.length ≤ 100000) (ha : rdI g va u) :
    FnS Try.prog f_forest_Below [fv va, .int .i64 i] g n (fun _ => False) fun v g' n' => Gi n g' v (belS u i) ∧ Kept g n g' n' := by
  refine fnS_of_rwp t_forest_Below hm rfl hdom ?_
  have k1 := (Kept.refl hdom).new (.row [va] true)
  have ha1 := ha.ext (k1.ext hdom)
  unfold belS
  simp (maxSteps := 1000000) (disch := first | assumption | omega | rfl | decide | simp only [fitsR, Bool.and_self]) [↓rules, rules, ↓rulesDp, rulesDq, lit_u64, Int.ofNat_inj, stops, rc_forest_Below, q_int, q_bool, q_S_int, q_forest_Forest]
  refine rcall_quiet rfl (forest_may va u i _ _ hl ha1) ?_
  cases cg : mayF u i
  · simp (maxSteps := 1000000) (disch := first | assumption | omega | rfl | decide | simp only [fitsR, Bool.and_self]) [↓rules, rules, ↓rulesDp, rulesDq, lit_u64, Int.ofNat_inj, stops, q_int, q_bool, q_S_int, q_forest_Forest]
    exact sdone_ret rfl ⟨Or.inl ⟨rfl, rfl⟩, k1⟩
  obtain ⟨cg, ci⟩ := mayF_iff.1 cg
  have hr := good_rk cg
  have hi2 : i ≠ -2 := fun e => by rw [e, ne_two] at ci; cases ci
  have hG0 : gset g n (some (.row [va] true)) n = some (.row [va] true) := by simp [gset]
  generalize hG : gset g n (some (.row [va] true)) = G at *
  simp (maxSteps := 1000000) (disch := first | assumption | omega | rfl | decide | simp only [fitsR, Bool.and_self]) [↓rules, rules, ↓rulesDp, rulesDq, lit_u64, Int.ofNat_inj, stops, q_int, q_bool, q_S_int, q_forest_Forest, hG0]
  refine dcall_spec k1.dom (forest_of va u i _ _ k1.dom hl ha1) (fun _ _ _ h => h.2) rfl (by simp (maxSteps := 1000000) (disch := first | assumption | omega | rfl | decide | simp only [fitsR, Bool.and_self]) [↓rules, rules, ↓rulesDp, rulesDq, lit_u64, Int.ofNat_inj]) fun Vk g1 n1 ⟨r1, q1⟩ => ?_
  have k2 := k1.trans q1
  have hbl := (hr.bel_perm ci (f := u.length) (by omega)).length_eq
  have hbl2 := bel_len u i
  simp (maxSteps := 1000000) (disch := first | assumption | omega | rfl | decide | simp only [fitsR, Bool.and_self]) [↓rules, rules, ↓rulesDp, rulesDq, lit_u64, Int.ofNat_inj, stops, q_int, q_bool, q_S_int, q_forest_Forest]
  refine dcall_spec k2.dom (forest_behind u.length va Vk u (kidsF u i) g1 n1 k2.dom hl (ha.ext (k2.ext hdom)) r1.rd cg (fun j hj => ⟨kids_is hi2 hj, by omega⟩) (Nat.le_trans (kidsU_len u i u.length) hl) (by omega)) (fun _ _ _ h => h.2) rfl (by simp (maxSteps := 1000000) (disch := first | assumption | omega | rfl | decide | simp only [fitsR, Bool.and_self]) [↓rules, rules, ↓rulesDp, rulesDq, lit_u64, Int.ofNat_inj]) fun Vb g2 n2 ⟨r2, q2⟩ => ?_
  have k3 := k2.trans q2
  have l1 := q1.le
  simp (maxSteps := 1000000) (disch := first | assumption | omega | rfl | decide | simp only [fitsR, Bool.and_self]) [↓rules, rules, ↓rulesDp, rulesDq, lit_u64, Int.ofNat_inj, stops, q_int, q_bool, q_S_int, q_forest_Forest]
  refine rcall_spec (sort_Gi (Gi.le (n := n) r2 (by omega)) k3.dom (by omega)) rfl (fun i h => h) rfl fun v g3 n3 ⟨hv, hn3, r3, hs3, hd3⟩ => ?_
  subst hn3
  rw [hr.bel_sort ci (f := u.length) (by omega)] at r3
  simp (maxSteps := 1000000) (disch := first | assumption | omega | rfl | decide | simp only [fitsR, Bool.and_self]) [↓rules, rules, ↓rulesDp, rulesDq, lit_u64, Int.ofNat_inj, stops, q_int, q_bool, q_S_int, q_forest_Forest]
  exact sdone_ret rfl ⟨r3, k3.le, fun i hi => (hs3 i hi).trans (k3.same i hi), hd3⟩
def ordS (u : List Int) : List Int := if goodF u = true then ordF u else []
theorem ord_len {u : List Int} (h : goodF u = true) : (ordF u).length ≤ u.length := by
  rw [(good_rk h).ord_perm.length_eq, List.length_map]
  exact Nat.le_trans (List.length_filter_le _ _) (by simp)
theorem forest_Order (va : Value) (u : List Int) (g : AMem) (n : Nat) (hdom : ∀ i, g i ≠ none → i < n) (hl : u.length ≤ 100000) (ha : rdI g va u) :
    FnS Try.prog f_forest_Order [fv va] g n (fun _ => False) fun v g' n' => Gi n g' v (ordS u) ∧ Kept g n g' n' := by
  refine fnS_of_rwp t_forest_Order hm rfl hdom ?_
  have k1 := (Kept.refl hdom).new (.row [va] true)
  have ha1 := ha.ext (k1.ext hdom)
  unfold ordS
  simp (maxSteps := 1000000) (disch := first | assumption | omega | rfl | decide | simp only [fitsR, Bool.and_self]) [↓rules, rules, ↓rulesDp, rulesDq, lit_u64, Int.ofNat_inj, stops, rc_forest_Order, q_int, q_bool, q_S_int, q_forest_Forest]
  refine rcall_quiet rfl (forest_Good va u _ _ hl ha1) ?_
  cases cg : goodF u
  · simp (maxSteps := 1000000) (disch := first | assumption | omega | rfl | decide | simp only [fitsR, Bool.and_self]) [↓rules, rules, ↓rulesDp, rulesDq, lit_u64, Int.ofNat_inj, stops, q_int, q_bool, q_S_int, q_forest_Forest]
    exact sdone_ret rfl ⟨Or.inl ⟨rfl, rfl⟩, k1⟩
  have hr := good_rk cg
  have hG0 : gset g n (some (.row [va] true)) n = some (.row [va] true) := by simp [gset]
  generalize hG : gset g n (some (.row [va] true)) = G at *
  simp (maxSteps := 1000000) (disch := first | assumption | omega | rfl | decide | simp only [fitsR, Bool.and_self]) [↓rules, rules, ↓rulesDp, rulesDq, lit_u64, Int.ofNat_inj, stops, q_int, q_bool, q_S_int, q_forest_Forest, hG0]
  refine dcall_spec k1.dom (forest_of va u (-1) _ _ k1.dom hl ha1) (fun _ _ _ h => h.2) rfl (by simp (maxSteps := 1000000) (disch := first | assumption | omega | rfl | decide | simp only [fitsR, Bool.and_self]) [↓rules, rules, ↓rulesDp, rulesDq, lit_u64, Int.ofNat_inj]) fun Vk g1 n1 ⟨r1, q1⟩ => ?_
  have k2 := k1.trans q1
  have hbl := ord_len cg
  unfold ordF at hbl
  simp (maxSteps := 1000000) (disch := first | assumption | omega | rfl | decide | simp only [fitsR, Bool.and_self]) [↓rules, rules, ↓rulesDp, rulesDq, lit_u64, Int.ofNat_inj, stops, q_int, q_bool, q_S_int, q_forest_Forest]
  refine dcall_spec k2.dom (forest_behind u.length va Vk u (kidsF u (-1)) g1 n1 k2.dom hl (ha.ext (k2.ext hdom)) r1.rd cg (fun j hj => ⟨roots_is j hj, by omega⟩) (Nat.le_trans (kidsU_len u (-1) u.length) hl) (by omega)) (fun _ _ _ h => h.2) rfl (by simp (maxSteps := 1000000) (disch := first | assumption | omega | rfl | decide | simp only [fitsR, Bool.and_self]) [↓rules, rules, ↓rulesDp, rulesDq, lit_u64, Int.ofNat_inj]) fun Vb g2 n2 ⟨r2, q2⟩ => ?_
  have k3 := k2.trans q2
  have l1 := q1.le
  simp (maxSteps := 1000000) (disch := first | assumption | omega | rfl | decide | simp only [fitsR, Bool.and_self]) [↓rules, rules, ↓rulesDp, rulesDq, lit_u64, Int.ofNat_inj, stops, q_int, q_bool, q_S_int, q_forest_Forest]
  exact sdone_ret rfl ⟨Gi.le (n := n) r2 (by omega), k3⟩
theorem forest_Prune (va : Value) (u : List Int) (i : Int) (g : AMem) (n : Nat) (hdom : ∀ i, g i ≠ none → i < n) (hl : u.length ≤ 100000) (ha : rdI g va u) :
    FnS Try.prog f_forest_Prune [fv va, .int .i64 i] g n (fun _ => False) fun v g' n' => ∃ V, v = .tuple #[fv V, .bool (mayF u i)] ∧ Gi n g' V (if mayF u i = true then pruneF u i else []) ∧ Kept g n g' n' := by
  refine fnS_of_rwp t_forest_Prune hm rfl hdom ?_
  have k1 := ((Kept.refl hdom).new (.row [va] true)).new (.row [.slice none 0 0] true)
  have ha1 := ha.ext (k1.ext hdom)
  simp (maxSteps := 1000000) (disch := first | assumption | omega | rfl | decide | simp only [fitsR, Bool.and_self]) [↓rules, rules, ↓rulesDp, rulesDq, lit_u64, Int.ofNat_inj, stops, rc_forest_Prune, q_int, q_bool, q_S_int, q_forest_Forest]
  have hG0 : gset (gset g n (some (.row [va] true))) (n + 1) (some (.row [.slice none 0 0] true)) n = some (.row [va] true) := by simp [gset]
  have hG1 : gset (gset g n (some (.row [va] true))) (n + 1) (some (.row [.slice none 0 0] true)) (n + 1) = some (.row [.slice none 0 0] true) := by simp [gset]
  generalize hG : gset (gset g n (some (.row [va] true))) (n + 1) (some (.row [.slice none 0 0] true)) = G at *
  refine rcall_quiet rfl (forest_may va u i _ _ hl ha1) ?_
  cases cg : mayF u i
  · simp (maxSteps := 1000000) (disch := first | assumption | omega | rfl | decide | simp only [fitsR, Bool.and_self]) [↓rules, rules, ↓rulesDp, rulesDq, lit_u64, Int.ofNat_inj, stops, q_int, q_bool, q_S_int, q_forest_Forest, hG1]
    exact sdone_ret (v := .tuple #[fv (.slice none 0 0), .bool false]) (by simp (maxSteps := 1000000) (disch := first | assumption | omega | rfl | decide | simp only [fitsR, Bool.and_self]) [↓rules, rules, ↓rulesDp, rulesDq, lit_u64, Int.ofNat_inj, stops, aResults, aRes, q_int, q_bool, q_S_int, q_forest_Forest]) ⟨_, rfl, Or.inl ⟨rfl, rfl⟩, k1.put (by omega) (by omega) _⟩
  have cm := cg
  obtain ⟨cg, ci⟩ := mayF_iff.1 cg
  obtain ⟨a0, a1, a2⟩ := isF_iff.1 ci
  simp (maxSteps := 1000000) (disch := first | assumption | omega | rfl | decide | simp only [fitsR, Bool.and_self]) [↓rules, rules, ↓rulesDp, rulesDq, lit_u64, Int.ofNat_inj, stops, q_int, q_bool, q_S_int, q_forest_Forest, hG0]
  refine rcall_spec (forest_Below va u i _ _ k1.dom hl ha1) rfl (fun _ h => h.elim) rfl fun Vk g1 n1 ⟨r1, q1⟩ => ?_
  have k2 := k1.trans q1
  have l1 := q1.le
  have hg0 : g1 n = some (.row [va] true) := by rw [q1.same _ (by omega)]; exact hG0
  have hg1 : g1 (n + 1) = some (.row [.slice none 0 0] true) := by rw [q1.same _ (by omega)]; exact hG1
  rw [show belS u i = belF u i by unfold belS; rw [if_pos cm]] at r1
  simp (maxSteps := 1000000) (disch := first | assumption | omega | rfl | decide | simp only [fitsR, Bool.and_self]) [↓rules, rules, ↓rulesDp, rulesDq, lit_u64, Int.ofNat_inj, stops, q_int, q_bool, q_S_int, q_forest_Forest, hg0]
  refine rcall_spec (forest_clone va u _ _ k2.dom hl (ha.ext (k2.ext hdom))) rfl (fun _ h => h.elim) rfl fun r g2 n2 ⟨V, hr2, r2, q2⟩ => ?_
  subst hr2
  have k3 := k2.trans q2
  have l2 := q2.le
  have hh0 : g2 n = some (.row [va] true) := by rw [q2.same _ (by omega)]; exact hg0
  have hh1 : g2 (n + 1) = some (.row [.slice none 0 0] true) := by rw [q2.same _ (by omega)]; exact hg1
  have r3 := r1.kept k2.dom q2
  rcases r2 with ⟨rfl, hnil⟩ | ⟨bV, hbV, rfl, hgV⟩
  · subst hnil; exact absurd a1 (by simp; omega)
  have hbm := k3.dom bV (by rw [hgV]; simp)
  have x1 : bV ≠ n := by omega
  have x2 : bV ≠ n + 1 := by omega
  have hks := bel_in (u := u) (i := i)
  have hpr : pruneF u i = setL u (belF u i) (-2) := rfl
  have hkl := bel_len u i
  have hne : ∀ bk, g1 bk ≠ none → bk < n1 := k2.dom
  generalize hkk : belF u i = ks at *
  obtain ⟨ka, ke, hVk⟩ := r3.rd.form
  simp (maxSteps := 1000000) (disch := first | assumption | omega | rfl | decide | simp only [fitsR, Bool.and_self]) [↓rules, rules, ↓rulesDp, rulesDq, lit_u64, Int.ofNat_inj, stops, q_int, q_bool, q_S_int, q_forest_Forest, hh0, hVk]
  rw [← hVk]
  have k4 := k3.put (b := n) (by omega) (by omega) (.row [.slice (some ⟨bV, 0, none⟩) u.length 1] true)
  have hH0 : gset g2 n (some (.row [.slice (some ⟨bV, 0, none⟩) u.length 1] true)) n = some (.row [.slice (some ⟨bV, 0, none⟩) u.length 1] true) := by simp [gset]
  have hH1 : gset g2 n (some (.row [.slice (some ⟨bV, 0, none⟩) u.length 1] true)) (n + 1) = some (.row [.slice none 0 0] true) := by simp [gset, hh1]
  have hHV : gset g2 n (some (.row [.slice (some ⟨bV, 0, none⟩) u.length 1] true)) bV = some (.row (cI u) true) := by simp [gset, x1, hgV]
  have r4 : ∀ (o : AObj), Gi (n + 1 + 1) (gset (gset g2 n (some (.row [.slice (some ⟨bV, 0, none⟩) u.length 1] true))) bV (some o)) Vk ks := fun o => by
    rcases r1 with h | ⟨bk, hbk, h1, h2⟩
    · exact Or.inl h
    · have := k2.dom bk (by rw [h2]; simp)
      refine Or.inr ⟨bk, hbk, h1, ?_⟩
      simp only [gset]
      rw [if_neg (by omega), if_neg (by omega), q2.same _ this]; exact h2
  generalize hH : gset g2 n (some (.row [.slice (some ⟨bV, 0, none⟩) u.length 1] true)) = H at *
  refine rwp_loop (fun j l g' n' => ∃ k, j = ks.length - k ∧ k ≤ ks.length ∧ g' = gset H bV (some (.row (cI (setL u (ks.take k) (-2))) true)) ∧ n' = n2 ∧ l = [(2, .pointer (some ⟨n, 0, none⟩)), (4, .pointer (some ⟨n + 1, 0, none⟩)), (19, Vk), (20, .int .i64 ks.length), (21, .int .i64 k)]) ?_ (k := ks.length) ?_
  · rintro j l g' n' ⟨k, rfl, hk, rfl, rfl, rfl⟩
    have hgl := setL_len (-2) (ks.take k) u
    by_cases hlt : (k : Int) < (ks.length : Int)
    case neg =>
      have : k = ks.length := by omega
      subst this
      rw [List.take_length] at hgl ⊢
      simp (maxSteps := 1000000) (disch := first | assumption | omega | rfl | decide | simp only [fitsR, Bool.and_self]) [↓rules, rules, ↓rulesDp, rulesDq, lit_u64, Int.ofNat_inj, stops, rc_forest_Prunel0, q_int, q_bool, q_S_int, q_forest_Forest, hlt, hH0, hH1, x1, x2, hgl]
      refine sdone_ret (v := .tuple #[fv (.slice (some ⟨bV, 0, none⟩) u.length 1), .bool true]) (by simp (maxSteps := 1000000) (disch := first | assumption | omega | rfl | decide | simp only [fitsR, Bool.and_self]) [↓rules, rules, ↓rulesDp, rulesDq, lit_u64, Int.ofNat_inj, stops, aResults, aRes, q_int, q_bool, q_S_int, q_forest_Forest]) ⟨_, rfl, Or.inr ⟨bV, by omega, by simp, ?_⟩, (by repeat first | exact k4 | refine Kept.new ?_ _ | refine Kept.drop ?_ (by omega) | refine Kept.put ?_ (by omega) (by omega) _ | refine Kept.skip ?_)⟩
      simp only [gset]
      rw [if_neg x2, if_pos trivial]
      simp [hpr]
    have hlt1 : k < ks.length := by omega
    obtain ⟨b1, o1, h1, _, h2⟩ := (r4 (.row (cI (setL u (ks.take k) (-2))) true)).rd.one hlt1
    have e2 := h2 _ (Ext.refl _) Try.prog _ ta_int
    obtain ⟨y0, y1⟩ := hks _ (List.getElem_mem hlt1)
    obtain ⟨p, hp⟩ : ∃ p : Nat, ks[k] = p := ⟨ks[k].toNat, by omega⟩
    have hst := setL_take u ks (-2) k hlt1
    rw [hp] at e2 y1 hst
    have w1 : IntKind.i64.wrap ((k : Int) + 1) = ((k + 1 : Nat) : Int) := by rw [wrap_i64 (by omega) (by omega)]; omega
    generalize hS : setL u (ks.take k) (-2) = S at *
    have c3 : p + 1 ≤ u.length := by omega
    simp (maxSteps := 1000000) (disch := first | assumption | omega | rfl | decide | simp only [fitsR, Bool.and_self]) [↓rules, rules, ↓rulesDp, rulesDq, lit_u64, Int.ofNat_inj, stops, rc_forest_Prunel0, q_int, q_bool, q_S_int, q_forest_Forest, hlt, h1, e2, hH0, hH1, x1, x2, y1, c3, hgl, w1]
    refine ⟨by omega, ks.length - (k + 1), by omega, k + 1, rfl, by omega, ?_, by omega⟩
    rw [hst, spliceI S p _ (by omega)]; rfl
  · exact ⟨0, by simp, by simp, by rw [List.take_zero]; exact (gset_eta hHV).symm, rfl, by rfl⟩
end Go.Proofs.Ytfcbhgiccgommaa.F10

namespace Go.Proofs.Ytfcbhgiccgommaa.F10
open Go Go.Proofs Go.Proofs.YtfcbhgiccgommaaAbs
variable [Base]
set_option maxHeartbeats 8000000
set_option maxRecDepth 100000
theorem rrun_mono {P : Program} {may : Nat → Prop} {ops : List ROp} {K K' : RL → AMem → Nat → Prop} {l : RL} {g : AMem} {n : Nat} (h : rrun P may ops K l g n) (hk : ∀ l g n, K l g n → K' l g n) : rrun P may ops K' l g n := by
  obtain ⟨l', g', n', h1, h2⟩ := rrun_exact ops l g n h
  exact h2 K' (hk _ _ _ h1)
theorem rval_mono {P : Program} {may : Nat → Prop} {dst : Option Tmp} {ops : List ROp} {K K' : RL → AMem → Nat → Prop} {l : RL} {g : AMem} {n : Nat} {o : Option Value} (h : rval dst (rrun P may ops K) l g n o) (hk : ∀ l g n, K l g n → K' l g n) : rval dst (rrun P may ops K') l g n o := by
  cases o with
  | none => exact h
  | some v => exact rrun_mono h hk
theorem awake10_run : xfn Try.prog tab 200 20 f_reevelaw10_awake [] (fun _ => none) 0 = some ⟨.bool true, fun _ => none, 0, 0, true⟩ := by kernel_rfl
theorem awake10 (g : AMem) (n : Nat) : FnC Try.prog f_reevelaw10_awake [] g n (fun _ => False) (.bool true) g n :=
  FnC.closed (xfn_ok hm tabOk 200 20 _ _ _ _ _ (fun _ h => absurd rfl h) awake10_run).2.1 rfl rfl g n
theorem law_up (va : Value) (g : AMem) (n : Nat) (hdom : ∀ i, g i ≠ none → i < n) (u : List Int) (ha : rdI g va u) : FnS Try.prog f_reevelaw10_up [va] g n (fun _ => False) fun v g' n' => v = fv va ∧ Kept g n g' n' := by
  refine fnS_of_rwp t_reevelaw10_up hm rfl hdom ?_
  obtain ⟨a, e, rfl⟩ := ha.form
  simp (maxSteps := 1000000) (disch := first | assumption | omega | rfl | decide | simp only [fitsR, Bool.and_self]) [↓rules, rules, ↓rulesDp, rulesDq, lit_u64, Int.ofNat_inj, stops, rc_reevelaw10_up, q_int, q_S_int, q_forest_Forest]
  exact sdone_ret (v := fv _) (by simp (maxSteps := 1000000) (disch := first | assumption | omega | rfl | decide | simp only [fitsR, Bool.and_self]) [↓rules, rules, ↓rulesDp, rulesDq, lit_u64, Int.ofNat_inj, stops, aResults, aRes, q_int, q_S_int, q_forest_Forest]) ⟨rfl, (by repeat first | exact Kept.refl hdom | refine Kept.new ?_ _ | refine Kept.drop ?_ (by omega) | refine Kept.put ?_ (by omega) (by omega) _ | refine Kept.skip ?_)⟩
def kidsS (u : List Int) (i : Int) : List Int := if mayF u i = true then kidsF u i else []
theorem kidsS_len (u : List Int) (i : Int) : (kidsS u i).length ≤ u.length := by
  unfold kidsS
  split
  · exact kidsU_len u i u.length
  · simp
theorem belS_len (u : List Int) (i : Int) : (belS u i).length ≤ u.length := by
  unfold belS
  split
  · exact bel_len u i
  · simp
theorem depth_of {u : List Int} {i : Int} (hg : goodF u = true) (hi : isF u i = true) : depthS u i = dpt u i := by
  unfold depthS; rw [if_pos (mayF_iff.2 ⟨hg, hi⟩)]
theorem depth_no {u : List Int} {i : Int} (hi : isF u i = false) : depthS u i = -1 := by
  unfold depthS; rw [if_neg]
  intro h
  rw [(mayF_iff.1 h).2] at hi; cases hi
theorem depth_lt {u : List Int} (hg : goodF u = true) (i : Int) : ∀ k, k ∈ belS u i → depthS u i < depthS u k := fun k hk => by
  unfold belS at hk
  split at hk
  · rename_i h
    obtain ⟨_, hi⟩ := mayF_iff.1 h
    obtain ⟨h1, h2⟩ := mem_bel.1 hk
    have := ((good_rk hg).ancs_lt _ k h1 rfl i h2).2
    rw [depth_of hg hi, depth_of hg h1]
    omega
  · cases hk
theorem depth_kids {u : List Int} (hg : goodF u = true) (i : Int) : (belS u i).filter (fun k => decide (depthS u k = depthS u i + 1)) = kidsS u i := by
  unfold belS kidsS
  split
  · rename_i h
    obtain ⟨_, hi⟩ := mayF_iff.1 h
    have hr := good_rk hg
    have i0 := (isF_iff.1 hi).1
    unfold belF kidsF
    rw [List.filter_map, List.filter_filter]
    congr 1
    refine List.filter_congr fun x hx => ?_
    rw [Bool.eq_iff_iff]
    simp only [Function.comp, Bool.and_eq_true, decide_eq_true_eq]
    constructor
    · rintro ⟨h3, h1, h2⟩
      have h1 : isF u (x : Int) = true := h1
      have h2 : i ∈ ancs u (x : Int) := h2
      have h3 : depthS u (x : Int) = depthS u i + 1 := h3
      rw [depth_of hg h1, depth_of hg hi] at h3
      by_cases hn : upAt u (x : Int) = -1
      · rw [hr.ancs_root h1 hn] at h2; cases h2
      · obtain ⟨s1, s2⟩ := hr.step _ h1 hn
        rw [hr.ancs_step h1 hn] at h2
        rcases List.mem_cons.1 h2 with e | e
        · exact e.symm
        · have := (hr.ancs_lt _ _ s1 rfl i e).2
          omega
    · intro h1
      have hxn : x < u.length := List.mem_range.1 hx
      have hx1 : isF u (x : Int) = true := isF_iff.2 ⟨by omega, by omega, by rw [h1]; omega⟩
      have hn : upAt u (x : Int) ≠ -1 := by omega
      obtain ⟨s1, s2⟩ := hr.step _ hx1 hn
      rw [h1] at s2
      refine ⟨?_, hx1, ?_⟩
      · show depthS u (x : Int) = depthS u i + 1
        rw [depth_of hg hx1, depth_of hg hi, s2]; rfl
      · show i ∈ ancs u (x : Int)
        rw [hr.ancs_step hx1 hn, h1]; exact List.mem_cons_self
  · rfl
theorem filter_at {α : Type} (p : α → Bool) (B : List α) (k : Nat) (hk : k < B.length) : B.filter p = (B.take k).filter p ++ ((if p B[k] then [B[k]] else []) ++ (B.drop (k + 1)).filter p) := by
  have : B = B.take k ++ (B[k] :: B.drop (k + 1)) := by
    rw [← List.drop_eq_getElem_cons hk, List.take_append_drop]
  conv => lhs; rw [this]
  rw [List.filter_append, List.filter_cons]
  split <;> rfl
theorem forestDepths (va : Value) (u : List Int) (g : AMem) (n : Nat) (hdom : ∀ i, g i ≠ none → i < n) (ha : rdI g va u) : FnC Try.prog f_reevelaw10_ForestDepths [va] g n (fun _ => False) (.bool true) g n := by
  refine fnC_of_rwp t_reevelaw10_ForestDepths hm rfl fun hdom => ?_
  obtain ⟨a, ea, hva⟩ := ha.form
  simp (maxSteps := 1000000) (disch := first | assumption | omega | rfl | decide | simp only [fitsR, Bool.and_self]) [↓rules, rules, ↓rulesDp, rulesDq, lit_u64, Int.ofNat_inj, stops, rc_reevelaw10_ForestDepths, q_int, q_bool, q_S_int, q_forest_Forest]
  refine rcall_quiet rfl (awake10 _ _) ?_
  simp (maxSteps := 1000000) (disch := first | assumption | omega | rfl | decide | simp only [fitsR, Bool.and_self]) [↓rules, rules, ↓rulesDp, rulesDq, lit_u64, Int.ofNat_inj, stops, q_int, q_bool, q_S_int, q_forest_Forest]
  refine rcall_spec (law_up va g n hdom u ha) rfl (fun _ h => h.elim) rfl fun r g1 n1 ⟨hr, q1⟩ => ?_
  subst hr
  have l1 := q1.le
  have k1 := q1.new (.row [va] true)
  have ha1 := ha.ext (k1.ext hdom)
  have hG0 : gset g1 n1 (some (.row [va] true)) n1 = some (.row [va] true) := by simp [gset]
  by_cases c1 : (96 : Int) < u.length
  · simp (maxSteps := 1000000) (disch := first | assumption | omega | rfl | decide | simp only [fitsR, Bool.and_self]) [↓rules, rules, ↓rulesDp, rulesDq, lit_u64, Int.ofNat_inj, stops, q_int, q_bool, q_S_int, q_forest_Forest, hva, c1]
    rw [← hva]
    exact ⟨by omega, done_q hdom k1 rfl rfl⟩
  simp (maxSteps := 1000000) (disch := first | assumption | omega | rfl | decide | simp only [fitsR, Bool.and_self]) [↓rules, rules, ↓rulesDp, rulesDq, lit_u64, Int.ofNat_inj, stops, q_int, q_bool, q_S_int, q_forest_Forest, hva, c1]
  rw [← hva]
  generalize hG : gset g1 n1 (some (.row [va] true)) = G at *
  refine ⟨by omega, ?_⟩
  refine rcall_quiet rfl (forest_Good va u _ _ (by omega) ha1) ?_
  cases cg : goodF u
  · simp (maxSteps := 1000000) (disch := first | assumption | omega | rfl | decide | simp only [fitsR, Bool.and_self]) [↓rules, rules, ↓rulesDp, rulesDq, lit_u64, Int.ofNat_inj, stops, q_int, q_bool, q_S_int, q_forest_Forest]
    exact done_q hdom k1 rfl rfl
  have hr := good_rk cg
  have hok := (good_parts cg).2.1
  simp (maxSteps := 1000000) (disch := first | assumption | omega | rfl | decide | simp only [fitsR, Bool.and_self]) [↓rules, rules, ↓rulesDp, rulesDq, lit_u64, Int.ofNat_inj, stops, q_int, q_bool, q_S_int, q_forest_Forest]
  refine rwp_loop (fun j l g' n' => ∃ i, j = u.length - i ∧ i ≤ u.length ∧ g' n1 = some (.row [va] true) ∧ Kept g n g' n' ∧ n1 < n' ∧ l = [(0, va), (3, .pointer (some ⟨n1, 0, none⟩)), (4, .int .i64 i)]) ?_ (k := u.length) ?_
  · rintro j l g' n' ⟨i, rfl, hi, hg', kp, hn', rfl⟩
    by_cases hlt : (i : Int) < (u.length : Int)
    case neg =>
      simp (maxSteps := 1000000) (disch := first | assumption | omega | rfl | decide | simp only [fitsR, Bool.and_self]) [↓rules, rules, ↓rulesDp, rulesDq, lit_u64, Int.ofNat_inj, stops, rc_reevelaw10_ForestDepthsl1, q_int, q_bool, q_S_int, q_forest_Forest, hva, hlt]
      exact done_q hdom kp rfl rfl
    have hlt1 : i < u.length := by omega
    obtain ⟨b1, o1, h1, _, h2⟩ := ha.one hlt1
    have e2 := h2 g' (kp.ext hdom) Try.prog _ ta_int
    have hup := upAt_nat hlt1
    have haG := ha.ext (kp.ext hdom)
    have w1 : IntKind.i64.wrap ((i : Int) + 1) = ((i + 1 : Nat) : Int) := by rw [wrap_i64 (by omega) (by omega)]; omega
    have hsum := depth_kids cg (i : Int)
    have hgt := depth_lt cg (i : Int)
    have hkl := kidsS_len u (i : Int)
    have hbl := belS_len u (i : Int)
    have hdl : -1 ≤ depthS u (i : Int) ∧ depthS u (i : Int) < 100 := by
      cases e : isF u (i : Int)
      · rw [depth_no e]; omega
      · rw [depth_of cg e]; have := hr.lt e; omega
    have hd3 : (u[i] = -2 ∧ depthS u (i : Int) = -1) ∨ (u[i] = -1 ∧ depthS u (i : Int) = 0) ∨ (0 ≤ u[i] ∧ depthS u (i : Int) = depthS u u[i] + 1) := by
      by_cases t1 : u[i] = -2
      · exact Or.inl ⟨t1, depth_no (isF_no (by rw [hup]; exact t1))⟩
      have hif : isF u (i : Int) = true := isF_iff.2 ⟨by omega, by omega, by rw [hup]; exact t1⟩
      by_cases t2 : u[i] = -1
      · refine Or.inr (Or.inl ⟨t2, ?_⟩)
        rw [depth_of cg hif, hr.root _ hif (by rw [hup]; exact t2)]; rfl
      · obtain ⟨s1, s2⟩ := hr.step _ hif (by rw [hup]; exact t2)
        rw [hup] at s1 s2
        refine Or.inr (Or.inr ⟨(isF_iff.1 s1).1, ?_⟩)
        rw [depth_of cg hif, depth_of cg s1, s2]; rfl
    simp (maxSteps := 1000000) (disch := first | assumption | omega | rfl | decide | simp only [fitsR, Bool.and_self]) [↓rules, rules, ↓rulesDp, rulesDq, lit_u64, Int.ofNat_inj, stops, rc_reevelaw10_ForestDepthsl1, q_int, q_bool, q_S_int, q_forest_Forest, hva, hlt, hg']
    rw [← hva]
    refine rcall_quiet rfl (forest_Depth va u i _ _ (by omega) haG) ?_
    have hwd : IntKind.i64.wrap (depthS u (i : Int) + 1) = depthS u (i : Int) + 1 := wrap_i64 (by omega) (by omega)
    generalize hdd : depthS u (i : Int) = d at *
    simp (maxSteps := 1000000) (disch := first | assumption | omega | rfl | decide | simp only [fitsR, Bool.and_self]) [↓rules, rules, ↓rulesDp, rulesDq, lit_u64, Int.ofNat_inj, stops, q_int, q_bool, q_S_int, q_forest_Forest]
    refine rval_mono (K := fun l g2 n2 => YtfcbhgiccgommaaAbs.look 0 l = va ∧ YtfcbhgiccgommaaAbs.look 3 l = .pointer (some ⟨n1, 0, none⟩) ∧ YtfcbhgiccgommaaAbs.look 4 l = .int .i64 i ∧ YtfcbhgiccgommaaAbs.look 5 l = .int .i64 d ∧ YtfcbhgiccgommaaAbs.look 69 l = .bool false ∧ g' = g2 ∧ n' = n2) ?_ ?_
    · rcases hd3 with ⟨t1, t2⟩ | ⟨t1, t2⟩ | ⟨t1, t2⟩
      · simp (maxSteps := 1000000) (disch := first | assumption | omega | rfl | decide | simp only [fitsR, Bool.and_self]) [↓rules, rules, ↓rulesDp, rulesDq, lit_u64, Int.ofNat_inj, stops, q_int, q_bool, q_S_int, q_forest_Forest, h1, hlt, hlt1, e2, t1, t2, hg']
      · simp (maxSteps := 1000000) (disch := first | assumption | omega | rfl | decide | simp only [fitsR, Bool.and_self]) [↓rules, rules, ↓rulesDp, rulesDq, lit_u64, Int.ofNat_inj, stops, q_int, q_bool, q_S_int, q_forest_Forest, h1, hlt, hlt1, e2, t1, t2, hg']
      · have t3 : u[i] ≠ -2 := by omega
        have t4 : u[i] ≠ -1 := by omega
        simp (maxSteps := 1000000) (disch := first | assumption | omega | rfl | decide | simp only [fitsR, Bool.and_self]) [↓rules, rules, ↓rulesDp, rulesDq, lit_u64, Int.ofNat_inj, stops, q_int, q_bool, q_S_int, q_forest_Forest, h1, hlt, hlt1, e2, t1, t3, t4, hg']
        rw [← h1]
        refine rcall_quiet rfl (forest_Depth va u u[i] _ _ (by omega) haG) ?_
        have t5 : IntKind.i64.wrap (depthS u u[i] + 1) = d := by rw [← t2]; exact wrap_i64 (by omega) (by omega)
        simp (maxSteps := 1000000) (disch := first | assumption | omega | rfl | decide | simp only [fitsR, Bool.and_self]) [↓rules, rules, ↓rulesDp, rulesDq, lit_u64, Int.ofNat_inj, stops, q_int, q_bool, q_S_int, q_forest_Forest, t5, hg']
    rintro l _ _ ⟨z0, z3, z4, z5, z69, rfl, rfl⟩
    simp (maxSteps := 1000000) (disch := first | assumption | omega | rfl | decide | simp only [fitsR, Bool.and_self]) [↓rules, rules, ↓rulesDp, rulesDq, lit_u64, Int.ofNat_inj, stops, q_int, q_bool, q_S_int, q_forest_Forest, z0, z3, z4, z5, z69, hg']
    refine dcall_spec kp.dom (forest_Kids va u i g' n' kp.dom (by omega) haG) (fun _ _ _ h => h.2) rfl (by simp (maxSteps := 1000000) (disch := first | assumption | omega | rfl | decide | simp only [fitsR, Bool.and_self]) [↓rules, rules, ↓rulesDp, rulesDq, lit_u64, Int.ofNat_inj]) fun VK g2 n2 ⟨rK, q2⟩ => ?_
    have rK : Gi n' g2 VK (kidsS u (i : Int)) := rK
    have kp2 := kp.trans q2
    have l2 := q2.le
    have hg2 : g2 n1 = some (.row [va] true) := by rw [q2.same _ (by omega)]; exact hg'
    simp (maxSteps := 1000000) (disch := first | assumption | omega | rfl | decide | simp only [fitsR, Bool.and_self]) [↓rules, rules, ↓rulesDp, rulesDq, lit_u64, Int.ofNat_inj, stops, q_int, q_bool, q_S_int, q_forest_Forest, hg2]
    refine dcall_spec kp2.dom (forest_Below va u i g2 n2 kp2.dom (by omega) (ha.ext (kp2.ext hdom))) (fun _ _ _ h => h.2) rfl (by simp (maxSteps := 1000000) (disch := first | assumption | omega | rfl | decide | simp only [fitsR, Bool.and_self]) [↓rules, rules, ↓rulesDp, rulesDq, lit_u64, Int.ofNat_inj]) fun VB g3 n3 ⟨rB, q3⟩ => ?_
    have kp3 := kp2.trans q3
    have l3 := q3.le
    have hg3 : g3 n1 = some (.row [va] true) := by rw [q3.same _ (by omega)]; exact hg2
    have rK3 := rK.kept q2.dom q3
    have ha3 := ha.ext (kp3.ext hdom)
    generalize hKK : kidsS u (i : Int) = K at *
    generalize hBB : belS u (i : Int) = B at *
    obtain ⟨xa, xe, hVK⟩ := rK3.rd.form
    obtain ⟨ya, ye, hVB⟩ := rB.rd.form
    simp (maxSteps := 1000000) (disch := first | assumption | omega | rfl | decide | simp only [fitsR, Bool.and_self]) [↓rules, rules, ↓rulesDp, rulesDq, lit_u64, Int.ofNat_inj, stops, q_int, q_bool, q_S_int, q_forest_Forest]
    refine rwp_loop (fun j l g4 n4 => ∃ k, j = B.length - k ∧ k ≤ B.length ∧ g4 = g3 ∧ n4 = n3 ∧ l = [(0, va), (3, .pointer (some ⟨n1, 0, none⟩)), (4, .int .i64 i), (5, .int .i64 d), (6, VK), (7, VB), (8, .int .i64 ((B.take k).filter (fun k => decide (depthS u k = d + 1))).length), (9, .int .i64 k)]) ?_ (k := B.length) ?_
    · rintro j l g4 n4 ⟨k, rfl, hk, rfl, rfl, rfl⟩
      by_cases hk1 : (k : Int) < (B.length : Int)
      case neg =>
        have : k = B.length := by omega
        subst this
        rw [List.take_length, hsum]
        simp (maxSteps := 1000000) (disch := first | assumption | omega | rfl | decide | simp only [fitsR, Bool.and_self]) [↓rules, rules, ↓rulesDp, rulesDq, lit_u64, Int.ofNat_inj, stops, rc_reevelaw10_ForestDepthsl0, q_int, q_bool, q_S_int, q_forest_Forest, hVK, hVB, hk1, w1]
        exact ⟨u.length - (i + 1), by omega, i + 1, rfl, by omega, hg3, kp3, by omega, by omega⟩
      have hk2 : k < B.length := by omega
      obtain ⟨b3, o3, h3, _, h4⟩ := rB.rd.one hk2
      have e3 := h4 _ (Ext.refl _) Try.prog _ ta_int
      have hf := filter_at (fun k => decide (depthS u k = d + 1)) B k hk2
      rw [hsum] at hf
      have hts := take_snoc B k hk2
      have hgk := hgt _ (List.getElem_mem hk2)
      have hml : ((B.take k).filter (fun k => decide (depthS u k = d + 1))).length ≤ k := Nat.le_trans (List.length_filter_le _ _) (by rw [List.length_take]; omega)
      generalize hms : (B.take k).filter (fun k => decide (depthS u k = d + 1)) = ms at *
      have w2 : IntKind.i64.wrap ((k : Int) + 1) = ((k + 1 : Nat) : Int) := by rw [wrap_i64 (by omega) (by omega)]; omega
      have w3 : IntKind.i64.wrap ((ms.length : Int) + 1) = ((ms.length + 1 : Nat) : Int) := by rw [wrap_i64 (by omega) (by omega)]; omega
      simp (maxSteps := 1000000) (disch := first | assumption | omega | rfl | decide | simp only [fitsR, Bool.and_self]) [↓rules, rules, ↓rulesDp, rulesDq, lit_u64, Int.ofNat_inj, stops, rc_reevelaw10_ForestDepthsl0, q_int, q_bool, q_S_int, q_forest_Forest, h3, hk1, e3, hg3]
      rw [← h3]
      refine rcall_quiet rfl (forest_Depth va u _ _ _ (by omega) ha3) ?_
      generalize hee : depthS u B[k] = e at *
      have c2 : ¬ e ≤ d := by omega
      by_cases c3 : e = d + 1
      · rw [if_pos (by simpa using c3)] at hf
        have hmK : ms.length < K.length := by rw [hf]; simp
        have hmK' : (ms.length : Int) < K.length := by omega
        have hmK2 : ¬ (K.length : Int) ≤ ms.length := by omega
        obtain ⟨b5, o5, h5, _, h6⟩ := rK3.rd.one hmK
        have e5 := h6 _ (Ext.refl _) Try.prog _ ta_int
        have hKm : K[ms.length] = B[k] := by
          have : K[ms.length]? = some B[k] := by rw [hf, List.getElem?_append_right (Nat.le_refl _)]; simp
          rw [List.getElem?_eq_getElem hmK] at this
          exact Option.some.inj this
        rw [hKm] at e5
        have c4 : ¬ d + 1 ≤ d := by omega
        subst c3
        simp (maxSteps := 1000000) (disch := first | assumption | omega | rfl | decide | simp only [fitsR, Bool.and_self]) [↓rules, rules, ↓rulesDp, rulesDq, lit_u64, Int.ofNat_inj, stops, q_int, q_bool, q_S_int, q_forest_Forest, hwd, c2, c4, h5, hmK', hmK2, e5, h3, hk1, e3, w2, w3]
        refine ⟨B.length - (k + 1), by omega, k + 1, rfl, by omega, ?_, by omega⟩
        rw [hts, List.filter_append, hms, List.length_append]
        simp [hee]
      · rw [if_neg (by simpa using c3)] at hf
        simp (maxSteps := 1000000) (disch := first | assumption | omega | rfl | decide | simp only [fitsR, Bool.and_self]) [↓rules, rules, ↓rulesDp, rulesDq, lit_u64, Int.ofNat_inj, stops, q_int, q_bool, q_S_int, q_forest_Forest, hwd, c2, c3, h3, w2]
        refine ⟨B.length - (k + 1), by omega, k + 1, rfl, by omega, ?_, by omega⟩
        rw [hts, List.filter_append, hms, List.length_append]
        simp [hee, c3]
    · exact ⟨0, by simp, by simp, rfl, rfl, by rfl⟩
  · exact ⟨0, by simp, by simp, hG0, k1, by omega, by rfl⟩
end Go.Proofs.Ytfcbhgiccgommaa.F10
