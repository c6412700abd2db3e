/- The abstract layer, part E: no statement is proved here; abstract values, heaps and walks, and that the machine does as they say. -/
import Derived.Test.YtkcahnefekkfaaaAbsD
set_option linter.unusedVariables false
set_option linter.unusedSimpArgs false
set_option linter.unusedSectionVars false
namespace Go.Proofs.YtkcahnefekkfaaaAbs
open Go Go.RowKit
variable [Base]
noncomputable def bc {α : Type} (c : Bool) (a b : α) : α := Bool.rec b a c
theorem bc_t {α : Type} (a b : α) : bc true a b = a := rfl
theorem bc_f {α : Type} (a b : α) : bc false a b = b := rfl
theorem bc_some {α : Type} {c : Bool} {a b : Option α} {r : α} (h : bc c a b = some r) : (c = true ∧ a = some r) ∨ (c = false ∧ b = some r) := by
  cases c
  · exact .inr ⟨rfl, h⟩
  · exact .inl ⟨rfl, h⟩
theorem bc_one {α : Type} {c : Bool} {a : Option α} {r : α} (h : bc c a none = some r) : c = true ∧ a = some r := by
  cases c
  · cases h
  · exact ⟨rfl, h⟩
theorem beq_iff (a b : Nat) : Nat.beq a b = true ↔ a = b := by rw [Nat.beq_eq]
theorem beq_not {a b : Nat} (h : Nat.beq a b = false) : a ≠ b := fun e => by rw [(beq_iff a b).2 e] at h; cases h
theorem ble_iff (a b : Nat) : Nat.ble a b = true ↔ a ≤ b := by rw [Nat.ble_eq]
theorem bc_beq {α : Type} (i j : Nat) (a b : α) : bc (Nat.beq i j) a b = if i = j then a else b := by
  by_cases h : i = j
  · rw [if_pos h, (beq_iff i j).2 h]; rfl
  · rw [if_neg h]
    cases e : Nat.beq i j
    · rfl
    · exact absurd ((beq_iff i j).1 e) h
theorem bc_ble {α : Type} (i j : Nat) (a b : α) : bc (Nat.ble i j) a b = if i ≤ j then a else b := by
  by_cases h : i ≤ j
  · rw [if_pos h, (ble_iff i j).2 h]; rfl
  · rw [if_neg h]
    cases e : Nat.ble i j
    · rfl
    · exact absurd ((ble_iff i j).1 e) h
theorem bc_if {α : Type} (c : Bool) (a b : α) : bc c a b = if c = true then a else b := by cases c <;> rfl

/-! ### Registers -/
noncomputable def lookF (t : Tmp) (l : RL) : Value := List.rec junk (fun kv _ ih => bc (Nat.beq t kv.1) kv.2 ih) l
theorem lookF_eq (t : Tmp) (l : RL) : lookF t l = look t l := by
  induction l with
  | nil => rfl
  | cons kv r ih =>
    obtain ⟨k, v⟩ := kv
    show bc (Nat.beq t k) v (lookF t r) = _
    rw [bc_beq, ih]; rfl
noncomputable def regsF (l : RL) : Regs := fun t => lookF t l
theorem regsF_eq (l : RL) : regsF l = regs l := funext fun t => lookF_eq t l
noncomputable def keepF (rs : List Tmp) (l : RL) : RL := rs.map fun t => (t, lookF t l)
theorem keepF_eq (rs : List Tmp) (l : RL) : keepF rs l = keepL rs l := by simp only [keepF, keepL, lookF_eq]

/-! ### The heap -/
inductive Tr where
  | nil
  | node (v : Option AObj) (l r : Tr)
noncomputable def Tr.get (t : Tr) : Nat → Option AObj :=
  Tr.rec (fun _ => none) (fun v _ _ gl gr i => bc (Nat.beq i 0) v (bc (Nat.beq (Nat.mod i 2) 1) (gl (Nat.div (Nat.sub i 1) 2)) (gr (Nat.div (Nat.sub i 1) 2)))) t
theorem Tr.get_nil (i : Nat) : Tr.nil.get i = none := rfl
theorem Tr.get_node (v : Option AObj) (l r : Tr) (i : Nat) : (Tr.node v l r).get i = if i = 0 then v else if i % 2 = 1 then l.get ((i - 1) / 2) else r.get ((i - 1) / 2) := by
  show bc (Nat.beq i 0) v (bc (Nat.beq (i % 2) 1) (l.get ((i - 1) / 2)) (r.get ((i - 1) / 2))) = _
  rw [bc_beq, bc_beq]
noncomputable def Tr.put (x : Option AObj) (f : Nat) : Tr → Nat → Option Tr :=
  Nat.rec (fun _ _ => none) (fun _ ih t i => match t with
    | .nil => bc (Nat.beq i 0) (some (.node x .nil .nil)) (bc (Nat.beq (Nat.mod i 2) 1) (match ih .nil (Nat.div (Nat.sub i 1) 2) with | some l => some (.node none l .nil) | none => none) (match ih .nil (Nat.div (Nat.sub i 1) 2) with | some r => some (.node none .nil r) | none => none))
    | .node v l r => bc (Nat.beq i 0) (some (.node x l r)) (bc (Nat.beq (Nat.mod i 2) 1) (match ih l (Nat.div (Nat.sub i 1) 2) with | some l => some (.node v l r) | none => none) (match ih r (Nat.div (Nat.sub i 1) 2) with | some r => some (.node v l r) | none => none))) f
theorem gset_half {l l' : Tr} {i j : Nat} {x : Option AObj} (h : l'.get = gset l.get ((i - 1) / 2) x) : l'.get ((j - 1) / 2) = if (j - 1) / 2 = (i - 1) / 2 then x else l.get ((j - 1) / 2) := by rw [h]; rfl
theorem Tr.put_get (x : Option AObj) : ∀ (f : Nat) (t t' : Tr) (i : Nat), Tr.put x f t i = some t' → t'.get = gset t.get i x
  | 0, t, t', i, h => by cases h
  | f + 1, .nil, t', i, h => by
    have h : bc (Nat.beq i 0) (some (Tr.node x .nil .nil)) (bc (Nat.beq (i % 2) 1) (match Tr.put x f .nil ((i - 1) / 2) with | some l => some (.node none l .nil) | none => none) (match Tr.put x f .nil ((i - 1) / 2) with | some r => some (.node none .nil r) | none => none)) = some t' := h
    rw [bc_beq, bc_beq] at h
    funext j
    show _ = if j = i then x else (none : Option AObj)
    split at h
    · cases h
      rename_i hi; subst hi
      rw [Tr.get_node]; simp only [Tr.get_nil, ite_self]
    · split at h
      · split at h
        · rename_i l hl
          cases h
          have e := gset_half (j := j) (Tr.put_get x f _ _ _ hl)
          rw [Tr.get_node, e]; simp only [Tr.get_nil]
          by_cases hj : j = i
          · subst hj; simp_all
          · rw [if_neg hj]; split
            · rfl
            · split
              · rw [if_neg (by omega)]
              · rfl
        · cases h
      · split at h
        · rename_i l hl
          cases h
          have e := gset_half (j := j) (Tr.put_get x f _ _ _ hl)
          rw [Tr.get_node, e]; simp only [Tr.get_nil]
          by_cases hj : j = i
          · subst hj; simp_all
          · rw [if_neg hj]; split
            · rfl
            · split
              · rfl
              · rw [if_neg (by omega)]
        · cases h
  | f + 1, .node v l r, t', i, h => by
    have h : bc (Nat.beq i 0) (some (Tr.node x l r)) (bc (Nat.beq (i % 2) 1) (match Tr.put x f l ((i - 1) / 2) with | some l => some (.node v l r) | none => none) (match Tr.put x f r ((i - 1) / 2) with | some r => some (.node v l r) | none => none)) = some t' := h
    rw [bc_beq, bc_beq] at h
    funext j
    show _ = if j = i then x else (Tr.node v l r).get j
    split at h
    · cases h
      rename_i hi; subst hi
      rw [Tr.get_node, Tr.get_node]; split <;> rfl
    · split at h
      · split at h
        · rename_i l' hl
          cases h
          have e := gset_half (j := j) (Tr.put_get x f _ _ _ hl)
          rw [Tr.get_node, Tr.get_node, e]
          by_cases hj : j = i
          · subst hj; simp_all
          · rw [if_neg hj]; split
            · rfl
            · split
              · rw [if_neg (by omega)]
              · rfl
        · cases h
      · split at h
        · rename_i l' hl
          cases h
          have e := gset_half (j := j) (Tr.put_get x f _ _ _ hl)
          rw [Tr.get_node, Tr.get_node, e]
          by_cases hj : j = i
          · subst hj; simp_all
          · rw [if_neg hj]; split
            · rfl
            · split
              · rfl
              · rw [if_neg (by omega)]
        · cases h
/-- A heap: a tree, or one below a bound and another from there on. -/
inductive TM where
  | tr (t : Tr)
  | over (n : Nat) (a b : TM)
noncomputable def TM.get (t : TM) : AMem := TM.rec (fun t => t.get) (fun n _ _ ga gb i => bc (Nat.ble (Nat.succ i) n) (ga i) (gb i)) t
noncomputable def TM.put (x : Option AObj) (t : TM) : Nat → Option TM :=
  TM.rec (fun t i => match Tr.put x 40 t i with | some t => some (.tr t) | none => none)
    (fun n a b pa pb i => bc (Nat.ble (Nat.succ i) n) (match pa i with | some a => some (.over n a b) | none => none) (match pb i with | some b => some (.over n a b) | none => none)) t
theorem TM.get_over (n : Nat) (a b : TM) (i : Nat) : (TM.over n a b).get i = if i < n then a.get i else b.get i := by
  show bc (Nat.ble (i + 1) n) (a.get i) (b.get i) = _
  rw [bc_ble]; rfl
theorem TM.put_get (x : Option AObj) : ∀ (t t' : TM) (i : Nat), TM.put x t i = some t' → t'.get = gset t.get i x
  | .tr t, t', i, h => by
    have h : (match Tr.put x 40 t i with | some t => some (TM.tr t) | none => none) = some t' := h
    split at h
    · rename_i t1 e; cases h; exact Tr.put_get x _ _ _ _ e
    · cases h
  | .over n a b, t', i, h => by
    have h : bc (Nat.ble (i + 1) n) (match TM.put x a i with | some a => some (TM.over n a b) | none => none) (match TM.put x b i with | some b => some (TM.over n a b) | none => none) = some t' := h
    rw [bc_ble] at h
    funext j
    show _ = if j = i then x else (TM.over n a b).get j
    split at h
    · split at h
      · rename_i a' e; cases h
        rw [TM.get_over, TM.get_over, TM.put_get x _ _ _ e]
        unfold gset
        by_cases hj : j = i
        · subst hj; simp; omega
        · simp [hj]
      · cases h
    · split at h
      · rename_i a' e; cases h
        rw [TM.get_over, TM.get_over, TM.put_get x _ _ _ e]
        unfold gset
        by_cases hj : j = i
        · subst hj; simp; omega
        · simp [hj]
      · cases h
noncomputable def TM.none : TM := .tr .nil
theorem TM.none_get : TM.none.get = fun _ => Option.none := rfl
noncomputable def partT (m : Nat) (T : TM) : TM := .over m T .none
theorem partT_get (m : Nat) (T : TM) : (partT m T).get = partG m T.get := by
  funext i; unfold partT partG; rw [TM.get_over]; rfl
noncomputable def laidT (n : Nat) (T T' : TM) : TM := match T' with
  | .over m a b => bc (Nat.ble m n) (.over n T b) (.over n T (.over m a b))
  | .tr t => .over n T (.tr t)
theorem laidT_get (n : Nat) (T T' : TM) : (laidT n T T').get = laidX n T.get T'.get := by
  funext i; unfold laidT laidX
  split
  · rw [bc_ble]
    split
    · rw [TM.get_over]; split
      · rfl
      · rw [TM.get_over, if_neg (by omega)]
    · rw [TM.get_over]
  · rw [TM.get_over]

/-! ### Rows -/
noncomputable def seek (cs : List Value) : Nat → List Value := List.rec (fun _ => []) (fun c tl ih o => bc (Nat.beq o 0) (c :: tl) (ih (Nat.sub o 1))) cs
theorem seek_eq : ∀ (cs : List Value) (o : Nat), seek cs o = cs.drop o
  | [], o => by simp [seek]
  | c :: tl, o => by
    show bc (Nat.beq o 0) (c :: tl) (seek tl (o - 1)) = _
    rw [bc_beq, seek_eq tl]
    split
    · rename_i h; subst h; rfl
    · rename_i h; obtain ⟨k, rfl⟩ := Nat.exists_eq_succ_of_ne_zero h; rfl
noncomputable def grab (cs : List Value) : Nat → Option (List Value) := List.rec (fun k => bc (Nat.beq k 0) (some []) none) (fun c _ ih k => bc (Nat.beq k 0) (some []) (match ih (Nat.sub k 1) with | some r => some (c :: r) | none => none)) cs
theorem grab_some : ∀ (cs : List Value) (k : Nat) (r : List Value), grab cs k = some r → k ≤ cs.length ∧ r = cs.take k
  | [], k, r, h => by
    have h : bc (Nat.beq k 0) (some []) none = some r := h
    rw [bc_beq] at h
    split at h
    · cases h; rename_i e; subst e; simp
    · cases h
  | c :: tl, k, r, h => by
    have h : bc (Nat.beq k 0) (some []) (match grab tl (k - 1) with | some r => some (c :: r) | none => none) = some r := h
    rw [bc_beq] at h
    split at h
    · cases h; rename_i e; subst e; simp
    · rename_i h0; obtain ⟨k, rfl⟩ := Nat.exists_eq_succ_of_ne_zero h0
      split at h
      · rename_i r' e; cases h
        obtain ⟨h1, h2⟩ := grab_some tl _ _ e
        have e1 : k.succ - 1 = k := rfl
        rw [e1] at h1 h2
        exact ⟨by simp; omega, by rw [h2]; rfl⟩
      · cases h
noncomputable def cellF (cs : List Value) : Nat → Option Value := List.rec (fun _ => none) (fun c _ ih o => bc (Nat.beq o 0) (some c) (ih (Nat.sub o 1))) cs
theorem cellF_eq : ∀ (cs : List Value) (o : Nat), cellF cs o = cs[o]?
  | [], o => by simp [cellF]
  | c :: tl, o => by
    show bc (Nat.beq o 0) (some c) (cellF tl (o - 1)) = _
    rw [bc_beq, cellF_eq tl]
    split
    · rename_i h; subst h; rfl
    · rename_i h; obtain ⟨k, rfl⟩ := Nat.exists_eq_succ_of_ne_zero h; rfl
noncomputable def layF (vs : List Value) : List Value → Option (List Value) := List.rec (fun cs => some cs) (fun v _ ih cs => match cs with
  | [] => none
  | _ :: tl => match ih tl with | some r => some (v :: r) | none => none) vs
theorem layF_some : ∀ (vs cs r : List Value), layF vs cs = some r → vs.length ≤ cs.length ∧ r = vs ++ cs.drop vs.length
  | [], cs, r, h => by cases h; simp
  | v :: vs, [], r, h => by cases h
  | v :: vs, c :: tl, r, h => by
    have h : (match layF vs tl with | some r => some (v :: r) | none => none) = some r := h
    split at h
    · rename_i r' e; cases h
      obtain ⟨h1, h2⟩ := layF_some vs tl _ e
      exact ⟨by simp; omega, by rw [h2]; simp⟩
    · cases h
noncomputable def putF (vs : List Value) (cs : List Value) : Nat → Option (List Value) := List.rec (fun o => bc (Nat.beq o 0) (layF vs []) none) (fun c tl ih o => bc (Nat.beq o 0) (layF vs (c :: tl)) (match ih (Nat.sub o 1) with | some r => some (c :: r) | none => none)) cs
theorem putF_some (vs : List Value) : ∀ (cs : List Value) (o : Nat) (r : List Value), putF vs cs o = some r → o + vs.length ≤ cs.length ∧ r = splice cs o vs
  | [], o, r, h => by
    have h : bc (Nat.beq o 0) (layF vs []) none = some r := h
    rw [bc_beq] at h
    split at h
    · rename_i e; subst e
      obtain ⟨h1, h2⟩ := layF_some _ _ _ h
      exact ⟨by omega, by rw [h2]; simp [splice]⟩
    · cases h
  | c :: tl, o, r, h => by
    have h : bc (Nat.beq o 0) (layF vs (c :: tl)) (match putF vs tl (o - 1) with | some r => some (c :: r) | none => none) = some r := h
    rw [bc_beq] at h
    split at h
    · rename_i e; subst e
      obtain ⟨h1, h2⟩ := layF_some _ _ _ h
      exact ⟨by omega, by rw [h2]; simp [splice]⟩
    · rename_i h0; obtain ⟨k, rfl⟩ := Nat.exists_eq_succ_of_ne_zero h0
      split at h
      · rename_i r' e; cases h
        obtain ⟨h1, h2⟩ := putF_some vs tl _ _ e
        have e1 : k.succ - 1 = k := rfl
        rw [e1] at h1 h2
        exact ⟨by simp; omega, by rw [h2]; unfold splice; rw [show k.succ + vs.length = (k + vs.length) + 1 by omega]; simp⟩
      · cases h

section
variable {P : Program}
noncomputable def partF (P : Program) (t : TypeId) (cs : List Value) (o : Nat) : Option Value := match tagg P t with
  | some true => match tsize P t with
    | some k => match grab (seek cs o) k with
      | some r => bc (Nat.beq k 0) (aPart P t cs o) (some (.agg r.toArray))
      | none => none
    | none => none
  | some false => cellF cs o
  | none => none
theorem partF_some {t : TypeId} {cs : List Value} {o : Nat} {v : Value} (h : partF P t cs o = some v) : aPart P t cs o = some v := by
  unfold partF at h
  split at h
  · rename_i ha
    split at h
    · rename_i k hk
      split at h
      · rename_i r hr
        rw [bc_beq] at h
        split at h
        · exact h
        · cases h
          obtain ⟨h1, h2⟩ := grab_some _ _ _ hr
          rw [seek_eq] at h1 h2
          unfold aPart
          rw [List.length_drop] at h1
          simp only [ha, hk]
          rw [if_pos (by omega), h2]
      · cases h
    · cases h
  · rename_i ha
    rw [cellF_eq] at h
    unfold aPart; simp only [ha]; exact h
  · cases h
noncomputable def loadF (P : Program) (T : TM) (t : TypeId) (a : Value) : Option Value := match a with
  | .pointer (some ⟨b, o, none⟩) => match T.get b with
    | some (.row cs _) => partF P t cs o
    | _ => none
  | _ => none
theorem loadF_some {T : TM} {t : TypeId} {a v : Value} (h : loadF P T t a = some v) : aLoad P T.get t a = some v := by
  unfold loadF at h
  split at h
  · split at h
    · rename_i hg
      have := partF_some h
      unfold aLoad
      simp only [hg]
      unfold aPart at this
      exact this
    · cases h
  · cases h
noncomputable def storeR (P : Program) (b o : Nat) (cs vs : List Value) (s : Nat) : Option Eff :=
  bc (Nat.beq s vs.length) (bc (vs.all cellOk) (match putF vs cs o with | some r => some (.put b (.row r true)) | none => none) none) none
noncomputable def storeF (P : Program) (T : TM) (t : TypeId) (v a : Value) : Option Eff := match a with
  | .pointer (some ⟨b, o, none⟩) => match T.get b with
    | some (.row cs true) => match tsize P t with
      | some s => storeR P b o cs v.cells.toList s
      | none => none
    | _ => none
  | _ => none
theorem storeF_some {T : TM} {t : TypeId} {v a : Value} {ε : Eff} (h : storeF P T t v a = some ε) : aStore P T.get t v a = some ε := by
  unfold storeF at h
  split at h
  · split at h
    · rename_i hg
      split at h
      · rename_i s hs
        unfold storeR at h
        obtain ⟨h1, h⟩ := bc_one h
        obtain ⟨h2, h⟩ := bc_one h
        split at h
        · rename_i r hr
          cases h
          obtain ⟨h3, h4⟩ := putF_some _ _ _ _ hr
          have h1 := (beq_iff _ _).1 h1
          unfold aStore
          simp only [hg]
          rw [if_pos ⟨by rw [hs, h1]; simp, h2, h3⟩, h4]
        · cases h
      · cases h
    · cases h
  · cases h
noncomputable def indexAddrF (P : Program) (t : TypeId) (x i : Value) : Option Value := match i with
  | .int _ (.ofNat i) => match P.underlying t with
    | some (.slice el) => match x with
      | .slice (some ⟨b, o, none⟩) n e => match tsize P el with
        | some e' => bc (Nat.beq e' e) (bc (Nat.ble (Nat.succ i) n) (some (.pointer (some ⟨b, Nat.add o (Nat.mul i e), none⟩))) none) none
        | none => none
      | _ => none
    | _ => aIndexAddr P t x (.int .i64 (.ofNat i))
  | i => aIndexAddr P t x i
theorem indexAddrF_some {t : TypeId} {x i v : Value} (h : indexAddrF P t x i = some v) : aIndexAddr P t x i = some v := by
  unfold indexAddrF at h
  split at h
  · rename_i k i
    split at h
    · rename_i el hu
      split at h
      · rename_i b o n e
        split at h
        · rename_i e' he
          obtain ⟨h1, h⟩ := bc_one h
          obtain ⟨h2, h⟩ := bc_one h
          have h1 := (beq_iff _ _).1 h1
          have h2 := (ble_iff _ _).1 h2
          subst h1
          cases h
          unfold aIndexAddr
          simp only [hu]
          rw [if_pos ⟨he, by simp, by simp; omega⟩]
          rfl
        · cases h
      · cases h
    · rw [← h]; rfl
  · exact h
noncomputable def fieldF (P : Program) (t : TypeId) (i : Nat) (x : Value) : Option Value := match x with
  | .agg cs => match P.underlying t with
    | some (.struct fs) => match fs[i]? with
      | some f => partF P f.type cs.toList f.offset
      | none => none
    | _ => none
  | _ => none
theorem fieldF_some {t : TypeId} {i : Nat} {x v : Value} (h : fieldF P t i x = some v) : aField P t i x = some v := by
  unfold fieldF at h
  split at h
  · split at h
    · rename_i hu
      split at h
      · rename_i f hf
        unfold aField
        simp only [hu, hf]
        exact partF_some h
      · cases h
    · cases h
  · cases h

/-! ### Numbers -/
noncomputable def kIx : IntKind → Nat
  | .i8 => 0 | .i16 => 1 | .i32 => 2 | .i64 => 3 | .u8 => 4 | .u16 => 5 | .u32 => 6 | .u64 => 7
theorem kIx_inj {k k' : IntKind} (h : kIx k = kIx k') : k = k' := by cases k <;> cases k' <;> first | rfl | (simp [kIx] at h)
noncomputable def kTop : IntKind → Nat
  | .i8 => 127 | .i16 => 32767 | .i32 => 2147483647 | .i64 => 9223372036854775807 | .u8 => 255 | .u16 => 65535 | .u32 => 4294967295 | .u64 => 18446744073709551615
theorem wrap_in (k : IntKind) (m : Nat) (h : m ≤ kTop k) : k.wrap (m : Int) = m := by
  cases k <;> simp only [kTop] at h <;> simp only [IntKind.wrap, IntKind.bits, IntKind.signed] <;> (simp; try omega)
noncomputable def wrapF (k : IntKind) (x : Int) : Int := match x with
  | .ofNat m => bc (Nat.ble m (kTop k)) (.ofNat m) (k.wrap (.ofNat m))
  | .negSucc m => k.wrap (.negSucc m)
theorem wrapF_eq (k : IntKind) (x : Int) : wrapF k x = k.wrap x := by
  unfold wrapF
  split
  · rw [bc_ble]; split
    · rename_i h; exact (wrap_in k _ h).symm
    · rfl
  · rfl
noncomputable def addF (a b : Int) : Int := match a, b with
  | .ofNat m, .ofNat n => .ofNat (Nat.add m n)
  | a, b => a + b
theorem addF_eq (a b : Int) : addF a b = a + b := by cases a <;> cases b <;> rfl
noncomputable def subF (a b : Int) : Int := match a, b with
  | .ofNat m, .ofNat n => bc (Nat.ble n m) (.ofNat (Nat.sub m n)) (.ofNat m - .ofNat n)
  | a, b => a - b
theorem subF_eq (a b : Int) : subF a b = a - b := by
  cases a <;> cases b <;> try rfl
  rename_i m n
  show bc (Nat.ble n m) (Int.ofNat (m - n)) (Int.ofNat m - Int.ofNat n) = _
  rw [bc_ble]; split
  · show ((m - n : Nat) : Int) = (m : Int) - n
    omega
  · rfl
noncomputable def mulF (a b : Int) : Int := match a, b with
  | .ofNat m, .ofNat n => .ofNat (Nat.mul m n)
  | a, b => a * b
theorem mulF_eq (a b : Int) : mulF a b = a * b := by cases a <;> cases b <;> rfl
noncomputable def ltF (a b : Int) : Bool := match a, b with
  | .ofNat m, .ofNat n => Nat.ble (Nat.succ m) n
  | .ofNat _, .negSucc _ => false
  | .negSucc _, .ofNat _ => true
  | .negSucc m, .negSucc n => Nat.ble (Nat.succ n) m
theorem ltF_eq (a b : Int) : ltF a b = decide (a < b) := by
  rw [Bool.eq_iff_iff, decide_eq_true_iff]
  cases a <;> cases b <;> simp only [ltF, ble_iff] <;> (try simp) <;> omega
noncomputable def eqF (a b : Int) : Bool := match a, b with
  | .ofNat m, .ofNat n => Nat.beq m n
  | .ofNat _, .negSucc _ => false
  | .negSucc _, .ofNat _ => false
  | .negSucc m, .negSucc n => Nat.beq n m
theorem eqF_eq (a b : Int) : eqF a b = decide (a = b) := by
  rw [Bool.eq_iff_iff, decide_eq_true_iff]
  cases a <;> cases b <;> simp only [eqF, beq_iff] <;> (try simp) <;> omega
noncomputable def notF (b : Bool) : Bool := bc b false true
theorem notF_eq (b : Bool) : notF b = !b := by cases b <;> rfl
noncomputable def binI (P : Program) (op : BinOp) (t : TypeId) (xo yo : Operand) (k k' : IntKind) (a b : Int) : Option Value := match op with
  | .add => bc (Nat.beq (kIx k) (kIx k')) (some (.int k (wrapF k (addF a b)))) none
  | .sub => bc (Nat.beq (kIx k) (kIx k')) (some (.int k (wrapF k (subF a b)))) none
  | .mul => bc (Nat.beq (kIx k) (kIx k')) (some (.int k (wrapF k (mulF a b)))) none
  | .eql => bc (Nat.beq (kIx k) (kIx k')) (some (.bool (eqF a b))) none
  | .neq => bc (Nat.beq (kIx k) (kIx k')) (some (.bool (notF (eqF a b)))) none
  | .lss => bc (Nat.beq (kIx k) (kIx k')) (some (.bool (ltF a b))) none
  | .gtr => bc (Nat.beq (kIx k) (kIx k')) (some (.bool (ltF b a))) none
  | .leq => bc (Nat.beq (kIx k) (kIx k')) (some (.bool (notF (ltF b a)))) none
  | .geq => bc (Nat.beq (kIx k) (kIx k')) (some (.bool (notF (ltF a b)))) none
  | .shr => match a, b with
    | .ofNat m, .ofNat n => bc (Nat.ble n k.bits) (some (.int k (.ofNat (Nat.shiftRight m n)))) (aBin P .shr t xo yo (.int k (.ofNat m)) (.int k' (.ofNat n)))
    | a, b => aBin P .shr t xo yo (.int k a) (.int k' b)
  | .shl => match a, b with
    | .ofNat m, .ofNat n => bc (Nat.ble n k.bits) (some (.int k (wrapF k (.ofNat (Nat.shiftLeft m n))))) (aBin P .shl t xo yo (.int k (.ofNat m)) (.int k' (.ofNat n)))
    | a, b => aBin P .shl t xo yo (.int k a) (.int k' b)
  | op => aBin P op t xo yo (.int k a) (.int k' b)
theorem binI_some {op : BinOp} {t : TypeId} {xo yo : Operand} {k k' : IntKind} {a b : Int} {v : Value} (h : binI P op t xo yo k k' a b = some v) : aBin P op t xo yo (.int k a) (.int k' b) = some v := by
  unfold binI at h
  split at h
  case h_10 =>
    split at h
    · rename_i m n
      rcases bc_some h with ⟨h1, h⟩ | ⟨_, h⟩
      · have h1 := (ble_iff _ _).1 h1
        cases h
        rw [bin_shr (by simp)]
        congr 2
        show (m : Int).fdiv (2 ^ (min ((n : Int).toNat) k.bits)) = _
        rw [show (n : Int).toNat = n by simp, Nat.min_eq_left h1]
        show _ = ((m >>> n : Nat) : Int)
        rw [Nat.shiftRight_eq_div_pow, Int.fdiv_eq_ediv_of_nonneg _ (by exact_mod_cast Nat.zero_le _)]
        push_cast
        rfl
      · exact h
    · exact h
  case h_11 =>
    split at h
    · rename_i m n
      rcases bc_some h with ⟨h1, h⟩ | ⟨_, h⟩
      · have h1 := (ble_iff _ _).1 h1
        cases h
        rw [bin_shl (by simp), wrapF_eq]
        congr 3
        show (m : Int) * (2 ^ (min ((n : Int).toNat) k.bits)) = ((m <<< n : Nat) : Int)
        rw [show (n : Int).toNat = n by simp, Nat.min_eq_left h1, Nat.shiftLeft_eq]
        push_cast
        rfl
      · exact h
    · exact h
  case h_12 => exact h
  all_goals
    obtain ⟨h1, h2⟩ := bc_one h
    clear h
    obtain rfl := kIx_inj ((beq_iff _ _).1 h1)
    cases h2
  · rw [bin_add, wrapF_eq, addF_eq]
  · rw [bin_sub, wrapF_eq, subF_eq]
  · rw [bin_mul, wrapF_eq, mulF_eq]
  · rw [bin_eql, eqF_eq]
  · rw [bin_neq, eqF_eq]; congr 2; by_cases e : a = b <;> simp [e, notF, bc]
  · rw [bin_lss, ltF_eq]
  · rw [bin_gtr, ltF_eq]
  · rw [bin_leq, ltF_eq]; congr 2; by_cases e : b < a <;> simp [e, notF, bc] <;> omega
  · rw [bin_geq, ltF_eq]; congr 2; by_cases e : a < b <;> simp [e, notF, bc] <;> omega
noncomputable def fitsKF : LK → Value → Bool
  | .int k, .int k' _ => Nat.beq (kIx k) (kIx k')
  | .bool, .bool _ => true
  | .str, .string _ => true
  | _, _ => false
theorem fitsKF_some {k : LK} {v : Value} (h : fitsKF k v = true) : fitsK k v = true := by
  unfold fitsKF at h
  split at h
  · obtain rfl := kIx_inj ((beq_iff _ _).1 h)
    simp [fitsK]
  · rfl
  · rfl
  · cases h
noncomputable def fitsF (ks : List LK) : List Value → Bool := List.rec (fun vs => match vs with
  | [] => true
  | _ => false) (fun k _ ih vs => match vs with
  | [] => false
  | v :: vs => bc (fitsKF k v) (ih vs) false) ks
theorem fitsF_some : ∀ {ks : List LK} {vs : List Value}, fitsF ks vs = true → fitsB ks vs = true
  | [], [], h => rfl
  | [], _ :: _, h => by cases h
  | k :: ks, [], h => by cases h
  | k :: ks, v :: vs, h => by
    have h : bc (fitsKF k v) (fitsF ks vs) false = true := h
    cases e : fitsKF k v
    · rw [e] at h; cases h
    · rw [e] at h
      simp only [fitsB, fitsKF_some e, fitsF_some h, Bool.and_self]
noncomputable def beqF (a b : Bool) : Bool := bc a b (notF b)
theorem beqF_eq (a b : Bool) : beqF a b = (a == b) := by cases a <;> cases b <;> rfl
noncomputable def cellF1 : Value → Value → Bool
  | .int _ a, .int _ b => eqF a b
  | .bool a, .bool b => beqF a b
  | .string a, .string b => a == b
  | _, _ => false
theorem cellF1_eq (x y : Value) : cellF1 x y = cellEq x y := by
  unfold cellF1 cellEq
  split
  · rw [eqF_eq]
  · rw [beqF_eq]; rename_i a b; cases a <;> cases b <;> rfl
  · rfl
  · rename_i h1 h2 h3
    split
    · exact (h1 _ _ _ _ rfl rfl).elim
    · exact (h2 _ _ rfl rfl).elim
    · exact (h3 _ _ rfl rfl).elim
    · rfl
noncomputable def cellsF (xs : List Value) : List Value → Bool := List.rec (fun ys => match ys with
  | [] => true
  | _ => false) (fun x _ ih ys => match ys with
  | [] => false
  | y :: ys => bc (cellF1 x y) (ih ys) false) xs
theorem cellsF_eq : ∀ (xs ys : List Value), cellsF xs ys = cellsEq xs ys
  | [], [] => rfl
  | [], _ :: _ => rfl
  | _ :: _, [] => rfl
  | x :: xs, y :: ys => by
    show bc (cellF1 x y) (cellsF xs ys) false = (cellEq x y && cellsEq xs ys)
    rw [cellF1_eq, cellsF_eq]; cases cellEq x y <;> rfl
noncomputable def eqAF (P : Program) (t : TypeId) (xs ys : List Value) : Option Bool := match eqOk P t with
  | some ks => match tagg P t with
    | some true => bc (fitsF ks xs) (bc (fitsF ks ys) (some (cellsF xs ys)) none) none
    | _ => none
  | none => none
theorem eqAF_some {t : TypeId} {xs ys : Array Value} {b : Bool} (h : eqAF P t xs.toList ys.toList = some b) (xo yo : Operand) : aBin P .eql t xo yo (.agg xs) (.agg ys) = some (.bool b) ∧ aBin P .neq t xo yo (.agg xs) (.agg ys) = some (.bool !b) := by
  unfold eqAF at h
  split at h
  · rename_i ks hk
    split at h
    · rename_i ha
      obtain ⟨h1, h⟩ := bc_one h
      obtain ⟨h2, h⟩ := bc_one h
      cases h
      have e1 := bin_eql_agg hk ha (xo := xo) (yo := yo) (fitsF_some h1) (fitsF_some h2)
      have e2 := bin_neq_agg hk ha (xo := xo) (yo := yo) (fitsF_some h1) (fitsF_some h2)
      rw [cellsF_eq]
      exact ⟨e1, e2⟩
    · cases h
  · cases h
noncomputable def binF (P : Program) (op : BinOp) (t : TypeId) (xo yo : Operand) (x y : Value) : Option Value := match x with
  | .int k a => match y with
    | .int k' b => binI P op t xo yo k k' a b
    | y => aBin P op t xo yo (.int k a) y
  | .agg xs => match y with
    | .agg ys => match op with
      | .eql => match eqAF P t xs.toList ys.toList with
        | some b => some (.bool b)
        | none => aBin P .eql t xo yo (.agg xs) (.agg ys)
      | .neq => match eqAF P t xs.toList ys.toList with
        | some b => some (.bool (notF b))
        | none => aBin P .neq t xo yo (.agg xs) (.agg ys)
      | op => aBin P op t xo yo (.agg xs) (.agg ys)
    | y => aBin P op t xo yo (.agg xs) y
  | .bool a => match y with
    | .bool b => match op with
      | .eql => match P.underlying t with
        | some .bool => some (.bool (beqF a b))
        | _ => none
      | .neq => match P.underlying t with
        | some .bool => some (.bool (notF (beqF a b)))
        | _ => none
      | op => aBin P op t xo yo (.bool a) (.bool b)
    | y => aBin P op t xo yo (.bool a) y
  | x => aBin P op t xo yo x y
theorem binF_some {op : BinOp} {t : TypeId} {xo yo : Operand} {x y v : Value} (h : binF P op t xo yo x y = some v) : aBin P op t xo yo x y = some v := by
  unfold binF at h
  split at h
  · split at h
    · exact binI_some h
    · exact h
  · split at h
    · split at h
      · split at h
        · rename_i e; cases h; exact (eqAF_some e xo yo).1
        · exact h
      · split at h
        · rename_i e; cases h; rw [notF_eq]; exact (eqAF_some e xo yo).2
        · exact h
      · exact h
    · exact h
  · split at h
    · split at h
      · split at h
        · rename_i e; cases h; rw [beqF_eq]; exact bin_eql_bool e
        · cases h
      · split at h
        · rename_i e; cases h; rw [notF_eq, beqF_eq]; exact bin_neq_bool e
        · cases h
      · exact h
    · exact h
  · exact h
noncomputable def convF (P : Program) (src d : TypeId) (x : Value) : Option Value := match x with
  | .int k a => match P.underlying src with
    | some (.int k1) => bc (Nat.beq (kIx k1) (kIx k)) (match P.underlying d with
      | some (.int k2) => some (.int k2 (wrapF k2 a))
      | _ => aConv P src d (.int k a)) none
    | _ => none
  | x => aConv P src d x
theorem convF_some {src d : TypeId} {x v : Value} (h : convF P src d x = some v) : aConv P src d x = some v := by
  unfold convF at h
  split at h
  · split at h
    · rename_i k1 hu
      obtain ⟨h1, h⟩ := bc_one h
      obtain rfl := kIx_inj ((beq_iff _ _).1 h1)
      split at h
      · rename_i k2 hd
        cases h
        rw [conv_int hu hd, wrapF_eq]
      · exact h
    · cases h
  · exact h
noncomputable def unF (P : Program) (op : UnOp) (x : Value) : Option Value := match x with
  | .bool b => match op with
    | .not => some (.bool (notF b))
    | op => aUn P op (.bool b)
  | x => aUn P op x
theorem unF_some {op : UnOp} {x v : Value} (h : unF P op x = some v) : aUn P op x = some v := by
  unfold unF at h
  split at h
  · split at h
    · cases h; rw [un_not, notF_eq]
    · exact h
  · exact h
noncomputable def mapF (o : Option Value) : Option (Value × Eff) := match o with
  | some v => some (v, .none)
  | none => none
noncomputable def mapE (o : Option Eff) : Option (Value × Eff) := match o with
  | some ε => some (undef, ε)
  | none => none
/-- One operation. -/
noncomputable def tOp (P : Program) (ty : TypeId) (ev : Operand → Value) (T : TM) (n : Nat) (op : Op) : Option (Value × Eff) := match op with
  | .binOp op t x y _ => mapF (binF P op t x y (ev x) (ev y))
  | .load t a => mapF (loadF P T t (ev a))
  | .store t a v => mapE (storeF P T t (ev v) (ev a))
  | .indexAddr t x i => mapF (indexAddrF P t (ev x) (ev i))
  | .field t x i => mapF (fieldF P t i (ev x))
  | .convert src d x => mapF (convF P src d (ev x))
  | .unOp op _ x => mapF (unF P op (ev x))
  | op => aOp P ty ev T.get n op
theorem mapF_some {o o' : Option Value} {r : Value × Eff} (h : mapF o = some r) (h' : ∀ v, o = some v → o' = some v) : (o'.map fun v => (v, Eff.none)) = some r := by
  unfold mapF at h
  split at h
  · cases h; rw [h' _ rfl]; rfl
  · cases h
theorem mapE_some {o o' : Option Eff} {r : Value × Eff} (h : mapE o = some r) (h' : ∀ v, o = some v → o' = some v) : (o'.map fun ε => (undef, ε)) = some r := by
  unfold mapE at h
  split at h
  · cases h; rw [h' _ rfl]; rfl
  · cases h
theorem aUn_map (op : UnOp) (x : Value) : (if flatV x = true then (pureFlat P (Op.unary op x)).map fun v => (v, Eff.none) else none) = (aUn P op x).map fun v => (v, Eff.none) := by unfold aUn; split <;> rfl
theorem aConv_map (src d : TypeId) (x : Value) : (if flatV x = true then (pureFlat P (convert src d x)).map fun v => (v, Eff.none) else none) = (aConv P src d x).map fun v => (v, Eff.none) := by unfold aConv; split <;> rfl
theorem tOp_some {ty : TypeId} {ev : Operand → Value} {T : TM} {n : Nat} {op : Op} {r : Value × Eff} (h : tOp P ty ev T n op = some r) : aOp P ty ev T.get n op = some r := by
  unfold tOp at h
  split at h
  · exact mapF_some h fun v => binF_some
  · exact mapF_some h fun v => loadF_some
  · exact mapE_some h fun v => storeF_some
  · exact mapF_some h fun v => indexAddrF_some
  · exact mapF_some h fun v => fieldF_some
  · show (if _ then _ else _) = _
    rw [aConv_map]; exact mapF_some h fun v => convF_some
  · show (if _ then _ else _) = _
    rw [aUn_map]; exact mapF_some h fun v => unF_some
  · exact h
end
end Go.Proofs.YtkcahnefekkfaaaAbs

namespace Go.Proofs.YtkcahnefekkfaaaAbs
open Go Go.RowKit
variable [Base]
structure TR where
  v : Value
  T : TM
  n : Nat
  low : Nat
  quiet : Bool
abbrev TCall := FuncId → List Value → TM → Nat → Option TR
abbrev TS := RL × TM × Nat × Nat
noncomputable def TS.x (s : TS) : RL × AMem × Nat × Nat := (s.1, s.2.1.get, s.2.2.1, s.2.2.2)
noncomputable def minF (a b : Nat) : Nat := bc (Nat.ble a b) a b
theorem minF_eq (a b : Nat) : minF a b = min a b := by unfold minF; rw [bc_ble]; split <;> omega
noncomputable def tputs (dst : Option Tmp) (v : Value) (l : RL) (T : TM) (i : Nat) (x : AObj) (n low : Nat) : Option TS := match TM.put (some x) T i with
  | some T => some (push dst v l, T, n, low)
  | none => none
theorem tputs_some {dst : Option Tmp} {v : Value} {l : RL} {T : TM} {i : Nat} {x : AObj} {n low : Nat} {s : TS} (h : tputs dst v l T i x n low = some s) : s.x = (push dst v l, gset T.get i (some x), n, low) := by
  unfold tputs at h
  split at h
  · rename_i T' e; cases h; rw [← TM.put_get _ _ _ _ e]; rfl
  · cases h
noncomputable def tmoves (dst : Option Tmp) (v : Value) (l : RL) (T : TM) (i : Nat) (x : AObj) (n low : Nat) : Option TS := match TM.put none T i with
  | some T => tputs dst v l T n x (Nat.succ n) low
  | none => none
theorem tmoves_some {dst : Option Tmp} {v : Value} {l : RL} {T : TM} {i : Nat} {x : AObj} {n low : Nat} {s : TS} (h : tmoves dst v l T i x n low = some s) : s.x = (push dst v l, gset (gset T.get i none) n (some x), n + 1, low) := by
  unfold tmoves at h
  split at h
  · rename_i T' e; rw [tputs_some h, ← TM.put_get _ _ _ _ e]
  · cases h
/-- What a run with a tree comes to, a run with a heap comes to. -/
def Sim (o : Option TS) (o' : Option (RL × AMem × Nat × Nat)) : Prop := ∀ s, o = some s → o' = some s.x
def CallSim (c : TCall) (c' : XCall) : Prop := ∀ f args T n r, c f args T n = some r → c' f args T.get n = some ⟨r.v, r.T.get, r.n, r.low, r.quiet⟩
section
variable {P : Program} {c : TCall} {c' : XCall}
noncomputable def top (P : Program) (call : TCall) (o : ROp) (l : RL) (T : TM) (n low : Nat) : Option TS :=
  match aCall (regsF l) o.op with
  | some (f, args) => match call f args T n with
    | some r => bc (bc o.fl true r.quiet) (some (push o.dst r.v l, r.T, r.n, minF low r.low)) none
    | none => none
  | none => match tOp P o.ty (aEval (regsF l)) T n o.op with
    | some (v, .none) => some (push o.dst v l, T, n, low)
    | some (v, .new x) => bc o.fl (tputs o.dst v l T n x (Nat.succ n) low) none
    | some (v, .put i x) => bc o.fl (tputs o.dst v l T i x n (minF low i)) none
    | some (v, .move i x) => bc o.fl (tmoves o.dst v l T i x n (minF low i)) none
    | none => none
theorem top_sim (hc : CallSim c c') (o : ROp) (l : RL) (T : TM) (n low : Nat) : Sim (top P c o l T n low) (xop P c' o l T.get n low) := fun s h => by
  unfold top at h
  unfold xop
  rw [regsF_eq] at h
  split at h
  · rename_i f args he
    simp only [he]
    split at h
    · rename_i r hr
      obtain ⟨h1, h⟩ := bc_one h
      cases h
      simp only [hc _ _ _ _ _ hr]
      rw [if_pos (by cases hf : o.fl <;> simp_all [bc]), minF_eq]
      rfl
    · cases h
  · rename_i he
    simp only [he]
    split at h
    · rename_i v e; simp only [tOp_some e]; cases h; rfl
    · rename_i v x e; simp only [tOp_some e]; obtain ⟨h1, h⟩ := bc_one h; rw [if_pos h1, tputs_some h]
    · rename_i v i x e; simp only [tOp_some e]; obtain ⟨h1, h⟩ := bc_one h; rw [if_pos h1, tputs_some h, minF_eq]
    · rename_i v i x e; simp only [tOp_some e]; obtain ⟨h1, h⟩ := bc_one h; rw [if_pos h1, tmoves_some h, minF_eq]
    · cases h
noncomputable def tstep (P : Program) (call : TCall) (o : ROp) (l : RL) (T : TM) (n low : Nat) : Option TS :=
  match o.guard with
  | .none => top P call o l T n low
  | .never => some (push o.dst undef l, T, n, low)
  | .some t want => match lookF t l with
    | .bool b => bc (bc b want (notF want)) (top P call o l T n low) (some (push o.dst undef l, T, n, low))
    | .tuple _ => some (push o.dst undef l, T, n, low)
    | _ => none
theorem tstep_sim (hc : CallSim c c') (o : ROp) (l : RL) (T : TM) (n low : Nat) : Sim (tstep P c o l T n low) (xstep P c' o l T.get n low) := fun s h => by
  unfold tstep at h
  unfold xstep
  split at h
  · rename_i hg; simp only [hg]; exact top_sim hc _ _ _ _ _ _ h
  · rename_i hg; simp only [hg]; cases h; rfl
  · rename_i t want hg; simp only [hg]
    rw [lookF_eq] at h
    split at h
    · rename_i b hb; simp only [hb]
      rcases bc_some h with ⟨h1, h⟩ | ⟨h1, h⟩
      · rw [if_pos (by cases b <;> cases want <;> simp_all [bc, notF])]; exact top_sim hc _ _ _ _ _ _ h
      · rw [if_neg (by cases b <;> cases want <;> simp_all [bc, notF])]; cases h; rfl
    · rename_i hb; simp only [hb]; cases h; rfl
    · cases h
noncomputable def trun (P : Program) (call : TCall) (ops : List ROp) : RL → TM → Nat → Nat → Option TS :=
  List.rec (fun l T n low => some (l, T, n, low)) (fun o _ ih l T n low => match tstep P call o l T n low with
    | some (l, T, n, low) => ih l T n low
    | none => none) ops
theorem trun_sim (hc : CallSim c c') : ∀ (ops : List ROp) (l : RL) (T : TM) (n low : Nat), Sim (trun P c ops l T n low) (xrun P c' ops l T.get n low)
  | [], l, T, n, low => fun s h => by cases h; rfl
  | o :: rest, l, T, n, low => fun s h => by
    have h : (match tstep P c o l T n low with | some (l, T, n, low) => trun P c rest l T n low | none => none) = some s := h
    split at h
    · rename_i l1 T1 n1 low1 e
      have := tstep_sim hc _ _ _ _ _ _ e
      simp only [xrun, this]
      exact trun_sim hc rest _ _ _ _ _ h
    · cases h

/-! ### Drawn regions -/
noncomputable def allF {α : Type} (p : α → Bool) (l : List α) : Bool := List.rec true (fun x _ ih => bc (p x) ih false) l
theorem allF_eq {α : Type} (p : α → Bool) (l : List α) : allF p l = l.all p := by
  induction l with
  | nil => rfl
  | cons x r ih => show bc (p x) (allF p r) false = _; rw [ih, List.all_cons]; cases p x <;> rfl
noncomputable def hasF (b : Nat) (l : List Nat) : Bool := List.rec false (fun x _ ih => bc (Nat.beq b x) true ih) l
theorem hasF_eq (b : Nat) (l : List Nat) : hasF b l = l.contains b := by
  induction l with
  | nil => rfl
  | cons x r ih =>
    show bc (Nat.beq b x) true (hasF b r) = _
    rw [bc_beq, ih, List.contains_cons]
    split <;> simp_all
noncomputable def outF (b lo hi : Nat) : Bool := bc (Nat.ble (Nat.succ b) lo) true (Nat.ble hi b)
theorem outF_eq (b lo hi : Nat) : outF b lo hi = (decide (b < lo) || decide (hi ≤ b)) := by
  unfold outF; rw [bc_ble]; split
  · rename_i h; simp [show b < lo from h]
  · rename_i h; rw [Bool.eq_iff_iff]; simp [show ¬ b < lo from h]
noncomputable def sepF : Fp → Fp → Bool
  | .bs l, .bs l' => allF (fun b => notF (hasF b l')) l
  | .bs l, .rng lo hi => allF (fun b => outF b lo hi) l
  | .rng lo hi, .bs l => allF (fun b => outF b lo hi) l
  | .rng a b, .rng c d => bc (Nat.ble b c) true (bc (Nat.ble d a) true (bc (Nat.ble b a) true (Nat.ble d c)))
  | _, _ => false
theorem sepF_eq (A B : Fp) : sepF A B = sepB A B := by
  cases A <;> cases B <;> simp only [sepF, sepB, allF_eq, outF_eq, notF_eq, hasF_eq]
  rename_i a b c d
  rw [Bool.eq_iff_iff]
  simp only [bc_if, ble_iff]
  simp
  omega
noncomputable def dgetF (i : Nat) (l : DLog) : Option DEnt := List.rec none (fun kv _ ih => bc (Nat.beq i kv.1) (some kv.2) ih) l
theorem dgetF_eq (i : Nat) (l : DLog) : dgetF i l = dget i l := by
  induction l with
  | nil => rfl
  | cons kv r ih =>
    obtain ⟨k, e⟩ := kv
    show bc (Nat.beq i k) (some e) (dgetF i r) = _
    rw [bc_beq, ih]; rfl
noncomputable def dsepF (log : DLog) (F W : Fp) (un : List Nat) : Bool := List.rec true (fun i _ ih => match dgetF i log with
  | none => ih
  | some e => bc (sepF F e.W) (bc (sepF F (.rng e.lo e.hi)) (bc (sepF e.F W) ih false) false) false) un
theorem dsepF_eq (log : DLog) (F W : Fp) (un : List Nat) : dsepF log F W un = dsepB log F W un := by
  induction un with
  | nil => rfl
  | cons i r ih =>
    show (match dgetF i log with | none => dsepF log F W r | some e => bc (sepF F e.W) (bc (sepF F (.rng e.lo e.hi)) (bc (sepF e.F W) (dsepF log F W r) false) false) false) = _
    rw [dgetF_eq, ih, show dsepB log F W (i :: r) = ((match dget i log with | none => true | some e => sepB F e.W && sepB F (.rng e.lo e.hi) && sepB e.F W) && dsepB log F W r) from rfl]
    cases dget i log with
    | none => simp
    | some e =>
      simp only [sepF_eq]
      cases sepB F e.W <;> cases sepB F (.rng e.lo e.hi) <;> cases sepB e.F W <;> simp [bc]
noncomputable def xcutF (log : DLog) (n : Nat) (un : List Nat) : Nat := List.rec n (fun i _ ih => minF (match dgetF i log with | none => n | some e => bc (Nat.ble (Nat.succ e.lo) e.hi) e.lo n) ih) un
theorem xcutF_eq (log : DLog) (n : Nat) (un : List Nat) : xcutF log n un = xcut log n un := by
  induction un with
  | nil => rfl
  | cons i r ih =>
    show minF (match dgetF i log with | none => n | some e => bc (Nat.ble (Nat.succ e.lo) e.hi) e.lo n) (xcutF log n r) = _
    rw [dgetF_eq, ih, minF_eq, show xcut log n (i :: r) = min (match dget i log with | none => n | some e => if e.lo < e.hi then e.lo else n) (xcut log n r) from rfl]
    cases dget i log with
    | none => rfl
    | some e => simp only [bc_ble]; rfl
noncomputable def opFpF (l : RL) (op : Op) : List Nat := op.operands.toList.flatMap fun x => fpV (aEval (regsF l) x)
theorem opFpF_eq (l : RL) (op : Op) : opFpF l op = opFp l op := by unfold opFpF opFp; rw [regsF_eq]
abbrev TDS := DLog × RL × TM × Nat × Nat
noncomputable def TDS.x (s : TDS) : DLog × RL × AMem × Nat × Nat := (s.1, s.2.1, s.2.2.1.get, s.2.2.2.1, s.2.2.2.2)
noncomputable def tlog (log : DLog) (o : Option TS) : Option TDS := match o with
  | some (l, T, n, low) => some (log, l, T, n, low)
  | none => none
theorem tlog_some {log : DLog} {o : Option TS} {s : TDS} (h : tlog log o = some s) : ∃ s', o = some s' ∧ s.x = (log, s'.x) := by
  unfold tlog at h
  split at h
  · cases h; exact ⟨_, rfl, rfl⟩
  · cases h
noncomputable def topD (P : Program) (call : TCall) (o : DOp) (log : DLog) (l : RL) (T : TM) (n low : Nat) : Option TDS :=
  match aCall (regsF l) o.op with
  | some (f, args) => match xcutF log n o.un with
    | m => match call f args (bc (Nat.beq m n) T (partT m T)) n with
      | some r => bc (bc (Nat.ble n r.low) (bc (Nat.ble m n) (dsepF log (.rng 0 m) (.bs []) o.un) false) false)
          (bc r.quiet (some ((o.i, ⟨.rng 0 m, .bs [], n, n⟩) :: log, push o.dst r.v l, T, n, low))
            (some ((o.i, ⟨.rng 0 m, .bs [], n, r.n⟩) :: log, push o.dst r.v l, (bc (Nat.beq m n) r.T (laidT n T r.T)), r.n, low))) none
      | none => none
  | none => match tOp P o.ty (aEval (regsF l)) T n o.op with
    | some (v, .none) => bc (pureOp o.op) (some (log, push o.dst v l, T, n, low)) (bc (dsepF log (.bs (opFpF l o.op)) (.bs []) o.un) (some ((o.i, ⟨.bs (opFpF l o.op), .bs [], n, n⟩) :: log, push o.dst v l, T, n, low)) none)
    | some (v, .new x) => bc (bc (pureOp o.op) false (dsepF log (.bs (opFpF l o.op)) (.bs []) o.un)) (tlog ((o.i, ⟨.bs (opFpF l o.op), .bs [], n, Nat.succ n⟩) :: log) (tputs o.dst v l T n x (Nat.succ n) low)) none
    | some (v, .put i x) => bc (bc (pureOp o.op) false (dsepF log (.bs (opFpF l o.op)) (.bs [i]) o.un)) (tlog ((o.i, ⟨.bs (opFpF l o.op), .bs [i], n, n⟩) :: log) (tputs o.dst v l T i x n (minF low i))) none
    | some (v, .move i x) => bc (bc (pureOp o.op) false (dsepF log (.bs (opFpF l o.op)) (.bs [i]) o.un)) (tlog ((o.i, ⟨.bs (opFpF l o.op), .bs [i], n, Nat.succ n⟩) :: log) (tmoves o.dst v l T i x n (minF low i))) none
    | none => none
def SimD (o : Option TDS) (o' : Option (DLog × RL × AMem × Nat × Nat)) : Prop := ∀ s, o = some s → o' = some s.x
theorem topD_sim (hc : CallSim c c') (o : DOp) (log : DLog) (l : RL) (T : TM) (n low : Nat) : SimD (topD P c o log l T n low) (xopD P c' o log l T.get n low) := fun s h => by
  unfold topD at h
  unfold xopD
  rw [regsF_eq] at h
  simp only [opFpF_eq, dsepF_eq, xcutF_eq] at h
  split at h
  · rename_i f args he
    simp only [he]
    have hT : ∀ m, (bc (Nat.beq m n) T (partT m T)).get = if m = n then T.get else partG m T.get := fun m => by
      rw [bc_beq]; split
      · rfl
      · exact partT_get _ _
    split at h
    · rename_i r hr
      obtain ⟨h1, h⟩ := bc_one h
      have hr := hc _ _ _ _ _ hr
      rw [hT] at hr
      simp only [hr]
      have h1 : (decide (n ≤ r.low) && decide (xcut log n o.un ≤ n) && dsepB log (.rng 0 (xcut log n o.un)) (.bs []) o.un) = true := by
        simp only [bc_if] at h1
        split at h1
        · rename_i e1
          split at h1
          · rename_i e2; rw [decide_eq_true ((ble_iff _ _).1 e1), decide_eq_true ((ble_iff _ _).1 e2), h1]; rfl
          · cases h1
        · cases h1
      rw [if_pos h1]
      rcases bc_some h with ⟨h2, h⟩ | ⟨h2, h⟩
      · cases h; rw [if_pos h2]; rfl
      · cases h; rw [if_neg (by rw [h2]; simp)]
        show _ = some ((o.i, ⟨.rng 0 (xcut log n o.un), .bs [], n, r.n⟩) :: log, push o.dst r.v l, (bc (Nat.beq (xcut log n o.un) n) r.T (laidT n T r.T)).get, r.n, low)
        rw [bc_beq]
        split
        · rfl
        · rw [laidT_get]
    · cases h
  · rename_i he
    simp only [he]
    have nb : ∀ {b : Bool}, bc (pureOp o.op) false b = true → (!pureOp o.op && b) = true := fun h => by revert h; cases pureOp o.op <;> simp [bc]
    split at h
    · rename_i v e; simp only [tOp_some e]
      rcases bc_some h with ⟨h1, h⟩ | ⟨h1, h⟩
      · cases h; rw [if_pos h1]; rfl
      · obtain ⟨h2, h⟩ := bc_one h
        cases h; rw [if_neg (by rw [h1]; simp), if_pos h2]; rfl
    · rename_i v x e; simp only [tOp_some e]; obtain ⟨h1, h⟩ := bc_one h; obtain ⟨s', h2, h3⟩ := tlog_some h; rw [if_pos (nb h1), h3, tputs_some h2]
    · rename_i v i x e; simp only [tOp_some e]; obtain ⟨h1, h⟩ := bc_one h; obtain ⟨s', h2, h3⟩ := tlog_some h; rw [if_pos (nb h1), h3, tputs_some h2, minF_eq]
    · rename_i v i x e; simp only [tOp_some e]; obtain ⟨h1, h⟩ := bc_one h; obtain ⟨s', h2, h3⟩ := tlog_some h; rw [if_pos (nb h1), h3, tmoves_some h2, minF_eq]
    · cases h
noncomputable def tstepD (P : Program) (call : TCall) (o : DOp) (log : DLog) (l : RL) (T : TM) (n low : Nat) : Option TDS :=
  match o.guard with
  | .none => topD P call o log l T n low
  | .never => some (log, push o.dst undef l, T, n, low)
  | .some t want => match lookF t l with
    | .bool b => bc (bc b want (notF want)) (topD P call o log l T n low) (some (log, push o.dst undef l, T, n, low))
    | .tuple _ => some (log, push o.dst undef l, T, n, low)
    | _ => none
theorem tstepD_sim (hc : CallSim c c') (o : DOp) (log : DLog) (l : RL) (T : TM) (n low : Nat) : SimD (tstepD P c o log l T n low) (xstepD P c' o log l T.get n low) := fun s h => by
  unfold tstepD at h
  unfold xstepD
  split at h
  · rename_i hg; simp only [hg]; exact topD_sim hc _ _ _ _ _ _ _ h
  · rename_i hg; simp only [hg]; cases h; rfl
  · rename_i t want hg; simp only [hg]
    rw [lookF_eq] at h
    split at h
    · rename_i b hb; simp only [hb]
      rcases bc_some h with ⟨h1, h⟩ | ⟨h1, h⟩
      · rw [if_pos (by cases b <;> cases want <;> simp_all [bc, notF])]; exact topD_sim hc _ _ _ _ _ _ _ h
      · rw [if_neg (by cases b <;> cases want <;> simp_all [bc, notF])]; cases h; rfl
    · rename_i hb; simp only [hb]; cases h; rfl
    · cases h
noncomputable def trunD (P : Program) (call : TCall) (ops : List DOp) : DLog → RL → TM → Nat → Nat → Option TS :=
  List.rec (fun _ l T n low => some (l, T, n, low)) (fun o _ ih log l T n low => match tstepD P call o log l T n low with
    | some (log, l, T, n, low) => ih log l T n low
    | none => none) ops
theorem trunD_sim (hc : CallSim c c') : ∀ (ops : List DOp) (log : DLog) (l : RL) (T : TM) (n low : Nat), Sim (trunD P c ops log l T n low) (xrunD P c' ops log l T.get n low)
  | [], log, l, T, n, low => fun s h => by cases h; rfl
  | o :: rest, log, l, T, n, low => fun s h => by
    have h : (match tstepD P c o log l T n low with | some (log, l, T, n, low) => trunD P c rest log l T n low | none => none) = some s := h
    split at h
    · rename_i log1 l1 T1 n1 low1 e
      have := tstepD_sim hc _ _ _ _ _ _ _ e
      simp only [xrunD, this]
      exact trunD_sim hc rest _ _ _ _ _ _ h
    · cases h

/-! ### Code -/
abbrev TE := Exit × RL × TM × Nat × Nat
noncomputable def TE.x (s : TE) : XS := (s.1, s.2.1, s.2.2.1.get, s.2.2.2.1, s.2.2.2.2)
def SimE (o : Option TE) (o' : Option XS) : Prop := ∀ s, o = some s → o' = some s.x
noncomputable def tloop (body : RL → TM → Nat → Nat → Option TE) (rs : List Tmp) (k : Nat) : RL → TM → Nat → Nat → Option TE :=
  Nat.rec (fun _ _ _ _ => none) (fun _ ih l T n low => match body (keepF rs l) T n low with
    | some (.normal, l, T, n, low) => ih l T n low
    | r => r) k
noncomputable def tcode (P : Program) (call : TCall) (k : Nat) (rc : RCode) : RL → TM → Nat → Nat → Option TE :=
  RCode.rec (fun l T n low => some (.normal, l, T, n, low))
    (fun ops l T n low => match trun P call ops l T n low with
      | some (l, T, n, low) => some (.normal, l, T, n, low)
      | none => none)
    (fun ops l T n low => match trunD P call ops [] l T n low with
      | some (l, T, n, low) => some (.normal, l, T, n, low)
      | none => none)
    (fun _ _ a b l T n low => match a l T n low with
      | some (.normal, l, T, n, low) => b l T n low
      | r => r)
    (fun c _ _ a b l T n low => match aEval (regsF l) c with
      | .bool t => bc t (a l T n low) (b l T n low)
      | _ => none)
    (fun id _ b l T n low => match b l T n low with
      | some (.exit id', l, T, n, low) => bc (Nat.beq id' id) (some (.normal, l, T, n, low)) (some (.exit id', l, T, n, low))
      | r => r)
    (fun rs _ b l T n low => tloop b rs k l T n low)
    (fun id l T n low => some (.exit id, l, T, n, low))
    (fun l T n low => some (.ret, l, T, n, low))
    (fun rs _ b l T n low => b (keepF rs l) T n low) rc
theorem tloop_sim {body : RL → TM → Nat → Nat → Option TE} {body' : RL → AMem → Nat → Nat → Option XS} (hb : ∀ l T n low, SimE (body l T n low) (body' l T.get n low)) (rs : List Tmp) : ∀ (k : Nat) (l : RL) (T : TM) (n low : Nat), SimE (tloop body rs k l T n low) (xloop body' rs k l T.get n low)
  | 0, l, T, n, low => fun s h => by cases h
  | k + 1, l, T, n, low => fun s h => by
    have h : (match body (keepF rs l) T n low with | some (.normal, l, T, n, low) => tloop body rs k l T n low | r => r) = some s := h
    rw [keepF_eq] at h
    unfold xloop
    split at h
    · rename_i l1 T1 n1 low1 e
      have := hb _ _ _ _ _ e
      simp only [this, TE.x]
      exact tloop_sim hb rs k _ _ _ _ _ h
    · rename_i hne
      have h2 := hb _ _ _ _ _ h
      rw [h2]
      obtain ⟨e, l1, T1, n1, low1⟩ := s
      cases e with
      | normal => exact absurd h (hne _ _ _ _)
      | _ => rfl
theorem tcode_sim (hc : CallSim c c') (k : Nat) : ∀ (rc : RCode) (l : RL) (T : TM) (n low : Nat), SimE (tcode P c k rc l T n low) (xcode P c' k rc l T.get n low) := by
  intro rc
  induction rc with
  | skip => intro l T n low s h; cases h; rfl
  | exit id => intro l T n low s h; cases h; rfl
  | ret => intro l T n low s h; cases h; rfl
  | keep rs b ih =>
    intro l T n low s h
    have h : tcode P c k b (keepF rs l) T n low = some s := h
    rw [keepF_eq] at h
    exact ih _ _ _ _ _ h
  | region ops =>
    intro l T n low s h
    have h : (match trun P c ops l T n low with | some (l, T, n, low) => some (Exit.normal, l, T, n, low) | none => none) = some s := h
    unfold xcode
    split at h
    · rename_i e; cases h; rw [trun_sim hc _ _ _ _ _ _ e]; rfl
    · cases h
  | regionD ops =>
    intro l T n low s h
    have h : (match trunD P c ops [] l T n low with | some (l, T, n, low) => some (Exit.normal, l, T, n, low) | none => none) = some s := h
    unfold xcode
    split at h
    · rename_i e; cases h; rw [trunD_sim hc _ _ _ _ _ _ _ e]; rfl
    · cases h
  | seq a b iha ihb =>
    intro l T n low s h
    have h : (match tcode P c k a l T n low with | some (.normal, l, T, n, low) => tcode P c k b l T n low | r => r) = some s := h
    unfold xcode
    split at h
    · rename_i e; rw [iha _ _ _ _ _ e]; exact ihb _ _ _ _ _ h
    · rename_i hne
      rw [iha _ _ _ _ _ h]
      obtain ⟨e, l1, T1, n1, low1⟩ := s
      cases e with
      | normal => exact absurd h (hne _ _ _ _)
      | _ => rfl
  | cond b x y ihx ihy =>
    intro l T n low s h
    have h : (match aEval (regsF l) b with | .bool t => bc t (tcode P c k x l T n low) (tcode P c k y l T n low) | _ => none) = some s := h
    rw [regsF_eq] at h
    unfold xcode
    split at h
    · rename_i t e
      rw [e]
      cases t with
      | true => exact ihx _ _ _ _ _ h
      | false => exact ihy _ _ _ _ _ h
    · cases h
  | block id b ih =>
    intro l T n low s h
    have h : (match tcode P c k b l T n low with | some (.exit id', l, T, n, low) => bc (Nat.beq id' id) (some (.normal, l, T, n, low)) (some (.exit id', l, T, n, low)) | r => r) = some s := h
    unfold xcode
    split at h
    · rename_i id' l1 T1 n1 low1 e
      rw [ih _ _ _ _ _ e]
      rw [bc_beq] at h
      show (if id' = id then _ else _) = _
      split at h
      · cases h; rename_i e'; rw [if_pos e']; rfl
      · cases h; rename_i e'; rw [if_neg e']; rfl
    · rename_i hne
      rw [ih _ _ _ _ _ h]
      obtain ⟨e, l1, T1, n1, low1⟩ := s
      cases e with
      | exit id' => exact absurd h (hne _ _ _ _ _)
      | _ => rfl
  | loop rs b ih =>
    intro l T n low s h
    exact tloop_sim (fun l T n low => ih l T n low) rs k l T n low s h
noncomputable def tabF (t : XTab) (f : FuncId) : Option (RCode × List ResultVar × Nat) := List.rec none (fun kv _ ih => bc (Nat.beq f kv.1) (some kv.2) ih) t
theorem tabF_eq (t : XTab) (f : FuncId) : tabF t f = t.find f := by
  induction t with
  | nil => rfl
  | cons kv r ih =>
    obtain ⟨k, e⟩ := kv
    show bc (Nat.beq f k) (some e) (tabF r f) = _
    rw [bc_beq, ih]; rfl
noncomputable def extF (t : XExt) (f : FuncId) : Option (List Value → AMem → Nat → Option Value) := List.rec none (fun kv _ ih => bc (Nat.beq f kv.1) (some kv.2) ih) t
theorem extF_eq (t : XExt) (f : FuncId) : extF t f = t.find f := by
  induction t with
  | nil => rfl
  | cons kv r ih =>
    obtain ⟨k, e⟩ := kv
    show bc (Nat.beq f k) (some e) (extF r f) = _
    rw [bc_beq, ih]; rfl
noncomputable def resF (P : Program) (T : TM) (l : RL) (r : ResultVar) : Option Value := match r with
  | .tmp t => some (lookF t l)
  | .cell a t => loadF P T t (lookF a l)
theorem resF_some {T : TM} {l : RL} {r : ResultVar} {v : Value} (h : resF P T l r = some v) : aRes P T.get (regs l) r = some v := by
  cases r with
  | tmp t => cases h; unfold aRes regs; rw [lookF_eq]
  | cell a t =>
    have h : loadF P T t (lookF a l) = some v := h
    rw [lookF_eq] at h; exact loadF_some h
noncomputable def resL (P : Program) (T : TM) (l : RL) (rs : List ResultVar) : Option (List Value) := List.rec (some []) (fun r _ ih => match resF P T l r with
  | some v => match ih with
    | some vs => some (v :: vs)
    | none => none
  | none => none) rs
theorem resL_some {T : TM} {l : RL} : ∀ {rs : List ResultVar} {vs : List Value}, resL P T l rs = some vs → rs.mapM (aRes P T.get (regs l)) = some vs
  | [], vs, h => by cases h; rfl
  | r :: rs, vs, h => by
    have h : (match resF P T l r with | some v => (match resL P T l rs with | some vs => some (v :: vs) | none => none) | none => none) = some vs := h
    split at h
    · rename_i v e
      split at h
      · rename_i vs' e'; cases h
        rw [List.mapM_cons, resF_some e, resL_some e']; rfl
      · cases h
    · cases h
noncomputable def resultsF (P : Program) (T : TM) (l : RL) (rs : List ResultVar) : Option Value := match rs with
  | [] => some (.tuple #[])
  | [r] => resF P T l r
  | r :: s :: rest => match resL P T l (r :: s :: rest) with
    | some vs => some (.tuple vs.toArray)
    | none => none
theorem resultsF_some {T : TM} {l : RL} {rs : List ResultVar} {v : Value} (h : resultsF P T l rs = some v) : aResults P T.get (regs l) rs = some v := by
  match rs, h with
  | [], h => exact h
  | [r], h => exact resF_some h
  | r :: s :: rest, h =>
    have h : (match resL P T l (r :: s :: rest) with | some vs => some (Value.tuple vs.toArray) | none => none) = some v := h
    split at h
    · rename_i vs e; cases h
      show ((r :: s :: rest).mapM (aRes P T.get (regs l))).map _ = _
      rw [resL_some e]; rfl
    · cases h
noncomputable def extA (t : XExt) (f : FuncId) (args : List Value) (g : AMem) (n : Nat) : Option Value := match extF t f with
  | some e => e args g n
  | none => none
theorem extA_eq (t : XExt) (f : FuncId) (args : List Value) (g : AMem) (n : Nat) : extA t f args g n = t.at f args g n := by unfold extA XExt.at; rw [extF_eq]; rfl
/-- A call. 'k' bounds the rounds, the first number the depth. -/
noncomputable def tfn (P : Program) (tab : XTab) (ext : XExt) (k : Nat) (d : Nat) : TCall :=
  Nat.rec (fun _ _ _ _ => none) (fun _ ih f args T n => match extA ext f args T.get n with
    | some v => some ⟨v, T, n, n, true⟩
    | none => match tabF tab f with
      | none => none
      | some (rc, rs, na) => bc (Nat.beq args.length na) (match tcode P ih k rc (argL 0 args) T n n with
        | some (e, l, T1, n1, low) => bc (Exit.fine e) (match resultsF P T1 l rs with
          | some v => bc (bc (flatR v) (Nat.ble n low) false) (some ⟨v, T, n, n, true⟩) (some ⟨v, T1, n1, low, false⟩)
          | none => none) none
        | none => none) none) d
theorem tfn_sim (tab : XTab) (ext : XExt) (k : Nat) : ∀ d, CallSim (tfn P tab ext k d) (xfnE P tab ext k d)
  | 0 => fun f args T n r h => by cases h
  | d + 1 => fun f args T n r h => by
    have h : (match extA ext f args T.get n with
      | some v => some (⟨v, T, n, n, true⟩ : TR)
      | none => match tabF tab f with
        | none => none
        | some (rc, rs, na) => bc (Nat.beq args.length na) (match tcode P (tfn P tab ext k d) k rc (argL 0 args) T n n with
          | some (e, l, T1, n1, low) => bc (Exit.fine e) (match resultsF P T1 l rs with
            | some v => bc (bc (flatR v) (Nat.ble n low) false) (some ⟨v, T, n, n, true⟩) (some ⟨v, T1, n1, low, false⟩)
            | none => none) none
          | none => none) none) = some r := h
    rw [extA_eq, tabF_eq] at h
    unfold xfnE
    split at h
    · rename_i v hv; cases h; simp only [hv]
    · rename_i he
      simp only [he]
      split at h
      · cases h
      · rename_i rc rs na hf
        simp only [hf]
        obtain ⟨h1, h⟩ := bc_one h
        rw [if_pos ((beq_iff _ _).1 h1)]
        split at h
        · rename_i e l T1 n1 low ht
          have := tcode_sim (tfn_sim tab ext k d) k rc _ _ _ _ _ ht
          simp only [this, TE.x]
          obtain ⟨h2, h⟩ := bc_one h
          rw [if_pos h2]
          split at h
          · rename_i v hv
            simp only [resultsF_some hv]
            rcases bc_some h with ⟨h3, h⟩ | ⟨h3, h⟩
            · cases h
              rw [if_pos]
              revert h3; cases flatR v <;> simp [bc, ble_iff]
            · cases h
              rw [if_neg]
              revert h3; cases flatR v <;> simp [bc, ble_iff]
              intro h; cases e : Nat.ble n low
              · exact Nat.lt_of_not_le fun h => by rw [(ble_iff _ _).2 h] at e; cases e
              · rw [e] at h; cases h
          · cases h
        · cases h
/-- A quick run says 'true', and leaves the heap as it was. -/
noncomputable def yesT (o : Option TR) : Bool := match o with
  | some r => match r.v with
    | .bool b => bc r.quiet b false
    | _ => false
  | none => false
theorem yesT_some {o : Option TR} (h : yesT o = true) : ∃ r, o = some r ∧ r.v = .bool true ∧ r.quiet = true := by
  unfold yesT at h
  split at h
  · rename_i r
    split at h
    · rename_i b hb
      cases hq : r.quiet
      · rw [hq] at h; cases h
      · rw [hq] at h; exact ⟨r, rfl, by rw [hb, show b = true from h], hq⟩
    · cases h
  · cases h
theorem yes_fnC (hm : P.follows .mixedOrders = true) {tab : XTab} (ht : TabOk P tab) {ext : XExt} (hx : ExtOk P ext) {k d : Nat} {f : FuncId} {args : List Value} (h : yesT (tfn P tab ext k d f args TM.none 0) = true) : ∃ low, FnC P f args (fun _ => none) 0 (fun i => low ≤ i) (.bool true) (fun _ => none) 0 := by
  obtain ⟨r, h1, h2, h3⟩ := yesT_some h
  have h4 := tfn_sim tab ext k d _ _ _ _ _ h1
  obtain ⟨_, h5, h6, _⟩ := xfnE_ok hm ht hx k d f args _ 0 _ (fun i hi => absurd rfl hi) h4
  obtain ⟨h7, h8⟩ := h6 h3
  refine ⟨r.low, ?_⟩
  have e7 : r.T.get = fun _ => none := h7
  have e8 : r.n = 0 := h8
  have h5 : FnC P f args (fun _ => none) 0 (fun i => r.low ≤ i) r.v r.T.get r.n := h5
  rw [h2, e7, e8] at h5
  exact h5
end
end Go.Proofs.YtkcahnefekkfaaaAbs

namespace Go.Proofs.YtkcahnefekkfaaaAbs
open Go Go.RowKit
variable [Base]
abbrev KT := RL → TM → Nat → Nat → Option TR
def CallLe (c c' : TCall) : Prop := ∀ f args T n r, c f args T n = some r → c' f args T n = some r
/-! ### Operands -/
structure EvC where
  f : RL → Value
noncomputable def cEv (x : Operand) : EvC := match x with
  | .tmp t => ⟨fun l => lookF t l⟩
  | .const v => match pureV v with
    | true => ⟨fun _ => v⟩
    | false => ⟨fun _ => junk⟩
  | .global _ => ⟨fun _ => junk⟩
  | .func f => ⟨fun _ => .func (.func f) #[] #[]⟩
theorem cEv_eq (x : Operand) (l : RL) : (cEv x).f l = aEval (regsF l) x := by
  cases x with
  | tmp t => rfl
  | const v =>
    show (match pureV v with | true => (⟨fun _ => v⟩ : EvC) | false => ⟨fun _ => junk⟩).f l = if pureV v = true then v else junk
    cases pureV v <;> rfl
  | global _ => rfl
  | func f => rfl
structure EvsC where
  f : RL → List Value
noncomputable def cEvs (xs : List Operand) : EvsC := List.rec ⟨fun _ => []⟩ (fun x _ ih => match cEv x with
  | ⟨fx⟩ => match ih with
    | ⟨fs⟩ => ⟨fun l => fx l :: fs l⟩) xs
theorem cEvs_eq (xs : List Operand) (l : RL) : (cEvs xs).f l = xs.map (aEval (regsF l)) := by
  induction xs with
  | nil => rfl
  | cons x r ih =>
    show (cEv x).f l :: (cEvs r).f l = _
    rw [cEv_eq, ih]; rfl
structure PuC where
  f : Value → RL → RL
noncomputable def cPush (d : Option Tmp) : PuC := match d with
  | some d => ⟨fun v l => (d, v) :: l⟩
  | none => ⟨fun _ l => l⟩
theorem cPush_eq (d : Option Tmp) (v : Value) (l : RL) : (cPush d).f v l = push d v l := by cases d <;> rfl

/-! ### Values -/
section
variable {P : Program}
structure PaC where
  f : List Value → Nat → Option Value
noncomputable def cPart (P : Program) (t : TypeId) : PaC := match tagg P t with
  | some true => match tsize P t with
    | some k => ⟨fun cs o => match grab (seek cs o) k with
      | some r => bc (Nat.beq k 0) (aPart P t cs o) (some (.agg r.toArray))
      | none => none⟩
    | none => ⟨fun _ _ => none⟩
  | some false => ⟨fun cs o => cellF cs o⟩
  | none => ⟨fun _ _ => none⟩
theorem cPart_eq (t : TypeId) (cs : List Value) (o : Nat) : (cPart P t).f cs o = partF P t cs o := by
  unfold cPart partF
  cases tagg P t with
  | none => rfl
  | some b => cases b with
    | false => rfl
    | true => cases tsize P t <;> rfl
structure BiC where
  f : Value → Value → Option Value
noncomputable def intC (g : IntKind → IntKind → Int → Int → Option Value) (fb : Value → Value → Option Value) : BiC := ⟨fun x y => match x with
  | .int k a => match y with
    | .int k' b => g k k' a b
    | y => fb (.int k a) y
  | x => fb x y⟩
theorem intC_eq {op : BinOp} {t : TypeId} {xo yo : Operand} {g : IntKind → IntKind → Int → Int → Option Value} (h : ∀ k k' a b, g k k' a b = binF P op t xo yo (.int k a) (.int k' b)) (x y : Value) : (intC g (binF P op t xo yo)).f x y = binF P op t xo yo x y := by
  show (match x with
    | .int k a => match y with
      | .int k' b => g k k' a b
      | y => binF P op t xo yo (.int k a) y
    | x => binF P op t xo yo x y) = _
  split
  · split
    · exact h _ _ _ _
    · rfl
  · rfl
theorem top_lt (k : IntKind) {m : Nat} (h : m ≤ kTop k) : m < 2 ^ k.bits := by cases k <;> simp only [kTop] at h <;> simp only [IntKind.bits] <;> omega
theorem bv_nat {k : IntKind} {m : Nat} (h : m ≤ kTop k) : (BitVec.ofInt k.bits (m : Int)).toNat = m := by
  rw [BitVec.ofInt_natCast, BitVec.toNat_ofNat, Nat.mod_eq_of_lt (top_lt k h)]
theorem top_pow (k : IntKind) : ∃ j, kTop k + 1 = 2 ^ j := by
  cases k
  · exact ⟨7, rfl⟩
  · exact ⟨15, rfl⟩
  · exact ⟨31, rfl⟩
  · exact ⟨63, rfl⟩
  · exact ⟨8, rfl⟩
  · exact ⟨16, rfl⟩
  · exact ⟨32, rfl⟩
  · exact ⟨64, rfl⟩
theorem bits_and {k : IntKind} {m n : Nat} (h1 : m ≤ kTop k) (h2 : n ≤ kTop k) : bAnd k (m : Int) n = (Nat.land m n : Nat) := by
  unfold bAnd
  rw [BitVec.toNat_and, bv_nat h1, bv_nat h2]
  exact wrap_in k _ (Nat.le_trans Nat.and_le_left h1)
theorem bits_or {k : IntKind} {m n : Nat} (h1 : m ≤ kTop k) (h2 : n ≤ kTop k) : bOr k (m : Int) n = (Nat.lor m n : Nat) := by
  unfold bOr
  rw [BitVec.toNat_or, bv_nat h1, bv_nat h2]
  obtain ⟨j, hj⟩ := top_pow k
  have : m ||| n < 2 ^ j := Nat.or_lt_two_pow (by omega) (by omega)
  exact wrap_in k _ (by omega)
theorem bits_andNot {k : IntKind} {m n : Nat} (h1 : m ≤ kTop k) (h2 : n ≤ kTop k) : bAndNot k (m : Int) n = (Nat.xor m (Nat.land m n) : Nat) := by
  unfold bAndNot
  have e : BitVec.ofInt k.bits (m : Int) &&& ~~~ BitVec.ofInt k.bits (n : Int) = BitVec.ofInt k.bits (m : Int) ^^^ (BitVec.ofInt k.bits (m : Int) &&& BitVec.ofInt k.bits (n : Int)) := by
    apply BitVec.eq_of_getLsbD_eq
    intro i hi
    simp [hi]
    generalize (BitVec.ofNat k.bits m)[i] = x
    generalize (BitVec.ofNat k.bits n)[i] = y
    cases x <;> cases y <;> rfl
  rw [e, BitVec.toNat_xor, BitVec.toNat_and, bv_nat h1, bv_nat h2]
  obtain ⟨j, hj⟩ := top_pow k
  have h3 : m &&& n < 2 ^ j := Nat.lt_of_le_of_lt Nat.and_le_left (by omega)
  have : m ^^^ (m &&& n) < 2 ^ j := Nat.xor_lt_two_pow (by omega) h3
  exact wrap_in k _ (by omega)
noncomputable def bitC (f : Nat → Nat → Nat) (fb : Value → Value → Option Value) : BiC := intC (fun k k' a b => match a with
  | .ofNat m => match b with
    | .ofNat n => bc (bc (Nat.beq (kIx k) (kIx k')) (bc (Nat.ble m (kTop k)) (Nat.ble n (kTop k)) false) false) (some (.int k (.ofNat (f m n)))) (fb (.int k (.ofNat m)) (.int k' (.ofNat n)))
    | b => fb (.int k (.ofNat m)) (.int k' b)
  | a => fb (.int k a) (.int k' b)) fb
theorem bitC_eq {op : BinOp} {t : TypeId} {xo yo : Operand} {f : Nat → Nat → Nat} (h : ∀ k m n, m ≤ kTop k → n ≤ kTop k → binF P op t xo yo (.int k (.ofNat m)) (.int k (.ofNat n)) = some (.int k (.ofNat (f m n)))) (x y : Value) : (bitC f (binF P op t xo yo)).f x y = binF P op t xo yo x y := by
  refine intC_eq (fun k k' a b => ?_) x y
  split
  · rename_i m
    split
    · rename_i n
      cases e : bc (Nat.beq (kIx k) (kIx k')) (bc (Nat.ble m (kTop k)) (Nat.ble n (kTop k)) false) false
      · rfl
      · simp only [bc_if] at e
        split at e
        · rename_i e1
          split at e
          · rename_i e2
            obtain rfl := kIx_inj ((beq_iff _ _).1 e1)
            rw [h k m n ((ble_iff _ _).1 e2) ((ble_iff _ _).1 e)]; rfl
          · cases e
        · cases e
    · rfl
  · rfl
noncomputable def cBin (P : Program) (op : BinOp) (t : TypeId) (xo yo : Operand) : BiC := match op with
  | .add => intC (fun k k' a b => bc (Nat.beq (kIx k) (kIx k')) (some (.int k (wrapF k (addF a b)))) none) (binF P .add t xo yo)
  | .sub => intC (fun k k' a b => bc (Nat.beq (kIx k) (kIx k')) (some (.int k (wrapF k (subF a b)))) none) (binF P .sub t xo yo)
  | .mul => intC (fun k k' a b => bc (Nat.beq (kIx k) (kIx k')) (some (.int k (wrapF k (mulF a b)))) none) (binF P .mul t xo yo)
  | .eql => intC (fun k k' a b => bc (Nat.beq (kIx k) (kIx k')) (some (.bool (eqF a b))) none) (binF P .eql t xo yo)
  | .neq => intC (fun k k' a b => bc (Nat.beq (kIx k) (kIx k')) (some (.bool (notF (eqF a b)))) none) (binF P .neq t xo yo)
  | .lss => intC (fun k k' a b => bc (Nat.beq (kIx k) (kIx k')) (some (.bool (ltF a b))) none) (binF P .lss t xo yo)
  | .gtr => intC (fun k k' a b => bc (Nat.beq (kIx k) (kIx k')) (some (.bool (ltF b a))) none) (binF P .gtr t xo yo)
  | .leq => intC (fun k k' a b => bc (Nat.beq (kIx k) (kIx k')) (some (.bool (notF (ltF b a)))) none) (binF P .leq t xo yo)
  | .geq => intC (fun k k' a b => bc (Nat.beq (kIx k) (kIx k')) (some (.bool (notF (ltF a b)))) none) (binF P .geq t xo yo)
  | .and => bitC Nat.land (binF P .and t xo yo)
  | .or => bitC Nat.lor (binF P .or t xo yo)
  | .andNot => bitC (fun m n => Nat.xor m (Nat.land m n)) (binF P .andNot t xo yo)
  | .shr => intC (fun k k' a b => match a with
    | .ofNat m => match b with
      | .ofNat n => bc (Nat.ble n k.bits) (some (.int k (.ofNat (Nat.shiftRight m n)))) (aBin P .shr t xo yo (.int k (.ofNat m)) (.int k' (.ofNat n)))
      | b => aBin P .shr t xo yo (.int k (.ofNat m)) (.int k' b)
    | a => aBin P .shr t xo yo (.int k a) (.int k' b)) (binF P .shr t xo yo)
  | .shl => intC (fun k k' a b => match a with
    | .ofNat m => match b with
      | .ofNat n => bc (Nat.ble n k.bits) (some (.int k (wrapF k (.ofNat (Nat.shiftLeft m n))))) (aBin P .shl t xo yo (.int k (.ofNat m)) (.int k' (.ofNat n)))
      | b => aBin P .shl t xo yo (.int k (.ofNat m)) (.int k' b)
    | a => aBin P .shl t xo yo (.int k a) (.int k' b)) (binF P .shl t xo yo)
  | op => ⟨binF P op t xo yo⟩
theorem cBin_eq (op : BinOp) (t : TypeId) (xo yo : Operand) (x y : Value) : (cBin P op t xo yo).f x y = binF P op t xo yo x y := by
  cases op with
  | add => exact intC_eq (op := .add) (fun k k' a b => rfl) x y
  | sub => exact intC_eq (op := .sub) (fun k k' a b => rfl) x y
  | mul => exact intC_eq (op := .mul) (fun k k' a b => rfl) x y
  | eql => exact intC_eq (op := .eql) (fun k k' a b => rfl) x y
  | neq => exact intC_eq (op := .neq) (fun k k' a b => rfl) x y
  | lss => exact intC_eq (op := .lss) (fun k k' a b => rfl) x y
  | leq => exact intC_eq (op := .leq) (fun k k' a b => rfl) x y
  | gtr => exact intC_eq (op := .gtr) (fun k k' a b => rfl) x y
  | geq => exact intC_eq (op := .geq) (fun k k' a b => rfl) x y
  | and => exact bitC_eq (op := .and) (fun k m n h1 h2 => by simp only [binF, binI, bin_and]; exact congrArg (fun z => some (Value.int k z)) (bits_and h1 h2)) x y
  | or => exact bitC_eq (op := .or) (fun k m n h1 h2 => by simp only [binF, binI, bin_or]; exact congrArg (fun z => some (Value.int k z)) (bits_or h1 h2)) x y
  | andNot => exact bitC_eq (op := .andNot) (fun k m n h1 h2 => by simp only [binF, binI, bin_andNot]; exact congrArg (fun z => some (Value.int k z)) (bits_andNot h1 h2)) x y
  | shr => exact intC_eq (op := .shr) (fun k k' a b => by cases a <;> cases b <;> rfl) x y
  | shl => exact intC_eq (op := .shl) (fun k k' a b => by cases a <;> cases b <;> rfl) x y
  | _ => rfl
noncomputable def fillF (pl : Nat → Option (Nat × Nat)) (parts : List (Nat × Value)) : List Value → Option (List Value) := List.rec (fun cells => some cells) (fun p _ ih cells => match pl p.1 with
  | none => none
  | some (off, size) => bc (Nat.beq p.2.cells.toList.length size) (bc (isJunk p.2) none (match putF p.2.cells.toList cells off with
    | some cells => ih cells
    | none => none)) none) parts
theorem fillF_some (pl : Nat → Option (Nat × Nat)) : ∀ (parts : List (Nat × Value)) (cells r : List Value), fillF pl parts cells = some r → aFill pl cells parts = some r
  | [], cells, r, h => h
  | (i, v) :: rest, cells, r, h => by
    have h : (match pl i with
      | none => none
      | some (off, size) => bc (Nat.beq v.cells.toList.length size) (bc (isJunk v) none (match putF v.cells.toList cells off with
        | some cells => fillF pl rest cells
        | none => none)) none) = some r := h
    unfold aFill
    split at h
    · cases h
    · rename_i off size e
      simp only [e]
      obtain ⟨h1, h⟩ := bc_one h
      have h1 := (beq_iff _ _).1 h1
      rcases bc_some h with ⟨_, h⟩ | ⟨hj, h⟩
      · cases h
      · split at h
        · rename_i cells' hp
          obtain ⟨h2, h3⟩ := putF_some _ _ _ _ hp
          rw [if_pos ⟨h1, by omega, hj⟩, ← h3]
          exact fillF_some pl rest _ _ h
        · cases h
structure VaC where
  f : RL → TM → Option Value
/-- Operations that give a value, and do nothing. -/
noncomputable def cVal (P : Program) (op : Op) : Option VaC := match op with
  | .move x => match cEv x with
    | ⟨fx⟩ => some ⟨fun l _ => some (fx l)⟩
  | .assign x => match cEv x with
    | ⟨fx⟩ => some ⟨fun l _ => some (fx l)⟩
  | .pick c a b => match cEv c with
    | ⟨fc⟩ => match cEv a with
      | ⟨fa⟩ => match cEv b with
        | ⟨fb⟩ => some ⟨fun l _ => match fc l with
          | .bool t => some (bc t (fa l) (fb l))
          | _ => none⟩
  | .load t a => match cEv a with
    | ⟨fa⟩ => match cPart P t with
      | ⟨p⟩ => some ⟨fun l T => match fa l with
        | .pointer (some ⟨b, o, none⟩) => match T.get b with
          | some (.row cs _) => p cs o
          | _ => none
        | _ => none⟩
  | .binOp op t x y _ => match cEv x with
    | ⟨fx⟩ => match cEv y with
      | ⟨fy⟩ => match cBin P op t x y with
        | ⟨g⟩ => some ⟨fun l _ => g (fx l) (fy l)⟩
  | .unOp op _ x => match cEv x with
    | ⟨fx⟩ => some ⟨fun l _ => unF P op (fx l)⟩
  | .convert src d x => match cEv x with
    | ⟨fx⟩ => some ⟨fun l _ => convF P src d (fx l)⟩
  | .indexAddr t x i => match cEv x with
    | ⟨fx⟩ => match cEv i with
      | ⟨fi⟩ => match P.underlying t with
        | some (.slice el) => match tsize P el with
          | some e' => some ⟨fun l _ => match fi l with
            | .int _ (.ofNat i) => match fx l with
              | .slice (some ⟨b, o, none⟩) n e => bc (Nat.beq e' e) (bc (Nat.ble (Nat.succ i) n) (some (.pointer (some ⟨b, Nat.add o (Nat.mul i e), none⟩))) none) none
              | _ => none
            | _ => none⟩
          | none => none
        | _ => some ⟨fun l _ => aIndexAddr P t (fx l) (fi l)⟩
  | .fieldAddr t x i => match cEv x with
    | ⟨fx⟩ => match tfield P t i with
      | some (_, off) => some ⟨fun l _ => match fx l with
        | .pointer (some ⟨b, o, none⟩) => some (.pointer (some ⟨b, Nat.add o off, none⟩))
        | _ => none⟩
      | none => none
  | .field t x i => match cEv x with
    | ⟨fx⟩ => match P.underlying t with
      | some (.struct fs) => match fs[i]? with
        | some f => match cPart P f.type with
          | ⟨p⟩ => some ⟨fun l _ => match fx l with
            | .agg cs => p cs.toList f.offset
            | _ => none⟩
        | none => none
      | _ => none
  | .extract x i => match cEv x with
    | ⟨fx⟩ => some ⟨fun l _ => match fx l with
      | .tuple vs => cellF vs.toList i
      | _ => none⟩
  | .nilCheck x => match cEv x with
    | ⟨fx⟩ => some ⟨fun l _ => match fx l with
      | .pointer (some a) => some (.pointer (some a))
      | .func (.func f) xs ys => some (.func (.func f) xs ys)
      | _ => none⟩
  | .makeFunc fn first captured => match cEvs first.toList with
    | ⟨fs⟩ => match cEvs captured.toList with
      | ⟨fc⟩ => some ⟨fun l _ => some (.func fn (fs l).toArray (fc l).toArray)⟩
  | .build t parts => match zeroFlat P t, P.underlying t, tplaces P t with
    | some z, some (.struct _), some pl => match cEvs (parts.toList.map (·.2)) with
      | ⟨fs⟩ => match parts.toList.map (·.1) with
        | is => some ⟨fun l _ => match fillF (fun i => pl[i]?) (is.zip (fs l)) z with
          | some cs => some (.agg cs.toArray)
          | none => none⟩
    | _, _, _ => none
  | .call c => match c.callee with
    | .builtin b => match b, c.args.toList, c.argTypes.toList with
      | .len, [x], [t] => match cEv x with
        | ⟨fx⟩ => some ⟨fun l _ => aLen P t (fx l)⟩
      | _, _, _ => none
    | _ => none
  | _ => none
theorem zip_map {α β γ : Type} (xs : List (α × β)) (f : β → γ) : (xs.map (·.1)).zip ((xs.map (·.2)).map f) = xs.map fun p => (p.1, f p.2) := by
  induction xs with
  | nil => rfl
  | cons x r ih => simp only [List.map_cons, List.zip_cons_cons, ih]
theorem arr_map (xs : Array Operand) (f : Operand → Value) : (xs.toList.map f).toArray = xs.map f := by
  rw [← Array.toList_map]
theorem cVal_ok {op : Op} {c : VaC} (h : cVal P op = some c) : (∀ T, aCall T op = none) ∧ ∀ ty l T n v, c.f l T = some v → tOp P ty (aEval (regsF l)) T n op = some (v, .none) := by
  cases op with
  | move x => cases h; exact ⟨fun _ => rfl, fun ty l T n v hv => by
      have hv : some ((cEv x).f l) = some v := hv
      rw [cEv_eq] at hv; cases hv; rfl⟩
  | assign x => cases h; exact ⟨fun _ => rfl, fun ty l T n v hv => by
      have hv : some ((cEv x).f l) = some v := hv
      rw [cEv_eq] at hv; cases hv; rfl⟩
  | pick c a b => cases h; exact ⟨fun _ => rfl, fun ty l T n v hv => by
      have hv : (match (cEv c).f l with | .bool t => some (bc t ((cEv a).f l) ((cEv b).f l)) | _ => none) = some v := hv
      rw [cEv_eq, cEv_eq, cEv_eq] at hv
      show (match aEval (regsF l) c with | .bool t => some (if t then aEval (regsF l) a else aEval (regsF l) b, Eff.none) | _ => none) = _
      split at hv
      · rename_i t e; cases hv; simp only [e, bc_if]
      · cases hv⟩
  | load t a => cases h; exact ⟨fun _ => rfl, fun ty l T n v hv => by
      have hv : (match (cEv a).f l with
        | .pointer (some ⟨b, o, none⟩) => match T.get b with
          | some (.row cs _) => (cPart P t).f cs o
          | _ => none
        | _ => none) = some v := hv
      rw [cEv_eq] at hv
      simp only [cPart_eq] at hv
      show mapF (loadF P T t (aEval (regsF l) a)) = _
      have : loadF P T t (aEval (regsF l) a) = some v := hv
      rw [this]; rfl⟩
  | binOp op t x y _ => cases h; exact ⟨fun _ => rfl, fun ty l T n v hv => by
      have hv : (cBin P op t x y).f ((cEv x).f l) ((cEv y).f l) = some v := hv
      rw [cEv_eq, cEv_eq, cBin_eq] at hv
      show mapF _ = _
      rw [hv]; rfl⟩
  | unOp op _ x => cases h; exact ⟨fun _ => rfl, fun ty l T n v hv => by
      have hv : unF P op ((cEv x).f l) = some v := hv
      rw [cEv_eq] at hv
      show mapF _ = _
      rw [hv]; rfl⟩
  | convert src d x => cases h; exact ⟨fun _ => rfl, fun ty l T n v hv => by
      have hv : convF P src d ((cEv x).f l) = some v := hv
      rw [cEv_eq] at hv
      show mapF _ = _
      rw [hv]; rfl⟩
  | indexAddr t x i =>
    refine ⟨fun _ => rfl, fun ty l T n v hv => ?_⟩
    have h : (match P.underlying t with
        | some (.slice el) => match tsize P el with
          | some e' => some (VaC.mk fun l _ => match (cEv i).f l with
            | .int _ (.ofNat i) => match (cEv x).f l with
              | .slice (some ⟨b, o, none⟩) n e => bc (Nat.beq e' e) (bc (Nat.ble (Nat.succ i) n) (some (.pointer (some ⟨b, Nat.add o (Nat.mul i e), none⟩))) none) none
              | _ => none
            | _ => none)
          | none => none
        | _ => some (VaC.mk fun l _ => aIndexAddr P t ((cEv x).f l) ((cEv i).f l))) = some c := h
    have fin : ∀ {a b : Value}, aIndexAddr P t a b = some v → aEval (regsF l) x = a → aEval (regsF l) i = b → ∀ (hh : indexAddrF P t a b = some v), tOp P ty (aEval (regsF l)) T n (.indexAddr t x i) = some (v, .none) := fun h1 h2 h3 h4 => by
      show mapF (indexAddrF P t (aEval (regsF l) x) (aEval (regsF l) i)) = _
      rw [h2, h3, h4]; rfl
    split at h
    · rename_i el hu
      split at h
      · rename_i e' he
        cases h
        have hv : (match (cEv i).f l with
            | .int _ (.ofNat i) => match (cEv x).f l with
              | .slice (some ⟨b, o, none⟩) n e => bc (Nat.beq e' e) (bc (Nat.ble (Nat.succ i) n) (some (.pointer (some ⟨b, Nat.add o (Nat.mul i e), none⟩))) none) none
              | _ => none
            | _ => none) = some v := hv
        rw [cEv_eq, cEv_eq] at hv
        show mapF (indexAddrF P t (aEval (regsF l) x) (aEval (regsF l) i)) = _
        have : indexAddrF P t (aEval (regsF l) x) (aEval (regsF l) i) = some v := by
          split at hv
          · rename_i e; rw [e]
            unfold indexAddrF
            simp only [hu, he]
            exact hv
          · cases hv
        rw [this]; rfl
      · cases h
    · rename_i hu
      cases h
      have hv : aIndexAddr P t ((cEv x).f l) ((cEv i).f l) = some v := hv
      rw [cEv_eq, cEv_eq] at hv
      show mapF (indexAddrF P t (aEval (regsF l) x) (aEval (regsF l) i)) = _
      have : indexAddrF P t (aEval (regsF l) x) (aEval (regsF l) i) = some v := by
        unfold indexAddrF
        split
        · rename_i k i e
          split
          · rename_i el hu'; exact absurd hu' (hu el)
          · rw [e] at hv; exact hv
        · exact hv
      rw [this]; rfl
  | fieldAddr t x i =>
    refine ⟨fun _ => rfl, fun ty l T n v hv => ?_⟩
    have h : (match tfield P t i with
      | some (_, off) => some (VaC.mk fun l _ => match (cEv x).f l with
        | .pointer (some ⟨b, o, none⟩) => some (.pointer (some ⟨b, Nat.add o off, none⟩))
        | _ => none)
      | none => none) = some c := h
    split at h
    · rename_i a off e
      cases h
      have hv : (match (cEv x).f l with
        | .pointer (some ⟨b, o, none⟩) => some (Value.pointer (some ⟨b, Nat.add o off, none⟩))
        | _ => none) = some v := hv
      rw [cEv_eq] at hv
      show (aFieldAddr P t i (aEval (regsF l) x)).map (fun v => (v, Eff.none)) = _
      split at hv
      · rename_i e'; cases hv; rw [e']; unfold aFieldAddr; simp only [e]; rfl
      · cases hv
    · cases h
  | field t x i =>
    refine ⟨fun _ => rfl, fun ty l T n v hv => ?_⟩
    have h : (match P.underlying t with
      | some (.struct fs) => match fs[i]? with
        | some f => some (VaC.mk fun l _ => match (cEv x).f l with
            | .agg cs => (cPart P f.type).f cs.toList f.offset
            | _ => none)
        | none => none
      | _ => none) = some c := h
    split at h
    · rename_i fs hu
      split at h
      · rename_i f hf
        cases h
        have hv : (match (cEv x).f l with
            | .agg cs => (cPart P f.type).f cs.toList f.offset
            | _ => none) = some v := hv
        rw [cEv_eq] at hv
        simp only [cPart_eq] at hv
        show mapF (fieldF P t i (aEval (regsF l) x)) = _
        have : fieldF P t i (aEval (regsF l) x) = some v := by
          unfold fieldF
          simp only [hu, hf]
          exact hv
        rw [this]; rfl
      · cases h
    · cases h
  | extract x i => cases h; exact ⟨fun _ => rfl, fun ty l T n v hv => by
      have hv : (match (cEv x).f l with | .tuple vs => cellF vs.toList i | _ => none) = some v := hv
      rw [cEv_eq] at hv
      show (match aEval (regsF l) x with | .tuple vs => (vs.toList[i]?).map fun v => (v, Eff.none) | _ => none) = _
      split at hv
      · rename_i vs e; rw [cellF_eq] at hv; simp only [e, hv]; rfl
      · cases hv⟩
  | nilCheck x => cases h; exact ⟨fun _ => rfl, fun ty l T n v hv => by
      have hv : (match (cEv x).f l with | .pointer (some a) => some (Value.pointer (some a)) | .func (.func f) xs ys => some (.func (.func f) xs ys) | _ => none) = some v := hv
      rw [cEv_eq] at hv
      show (match aEval (regsF l) x with | .pointer (some a) => some (Value.pointer (some a), Eff.none) | .func (.func f) xs ys => some (.func (.func f) xs ys, Eff.none) | _ => none) = _
      split at hv
      · rename_i e; cases hv; simp only [e]
      · rename_i e; cases hv; simp only [e]
      · cases hv⟩
  | makeFunc fn first captured => cases h; exact ⟨fun _ => rfl, fun ty l T n v hv => by
      have hv : some (Value.func fn ((cEvs first.toList).f l).toArray ((cEvs captured.toList).f l).toArray) = some v := hv
      rw [cEvs_eq, cEvs_eq, arr_map, arr_map] at hv
      cases hv; rfl⟩
  | build t parts =>
    refine ⟨fun _ => rfl, fun ty l T n v hv => ?_⟩
    have h : (match zeroFlat P t, P.underlying t, tplaces P t with
    | some z, some (.struct _), some pl => some (VaC.mk fun l _ => match fillF (fun i => pl[i]?) ((parts.toList.map (·.1)).zip ((cEvs (parts.toList.map (·.2))).f l)) z with
          | some cs => some (.agg cs.toArray)
          | none => none)
    | _, _, _ => none) = some c := h
    split at h
    · rename_i z fs pl hz hu hp
      cases h
      have hv : (match fillF (fun i => pl[i]?) ((parts.toList.map (·.1)).zip ((cEvs (parts.toList.map (·.2))).f l)) z with
          | some cs => some (Value.agg cs.toArray)
          | none => none) = some v := hv
      rw [cEvs_eq, zip_map] at hv
      split at hv
      · rename_i cs e
        cases hv
        show aOp P ty (aEval (regsF l)) T.get n (.build t parts) = _
        unfold aOp
        simp only [hz, hu, hp]
        rw [fillF_some _ _ _ _ e]; rfl
      · cases hv
    · cases h
  | call cl =>
    have h : (match cl.callee with
    | .builtin b => match b, cl.args.toList, cl.argTypes.toList with
      | .len, [x], [t] => some (VaC.mk fun l _ => aLen P t ((cEv x).f l))
      | _, _, _ => none
    | _ => none) = some c := h
    split at h
    · rename_i b hb
      split at h
      · rename_i x t e1 e2
        cases h
        refine ⟨fun T => by unfold aCall; simp only [hb], fun ty l T n v hv => ?_⟩
        have hv : aLen P t ((cEv x).f l) = some v := hv
        rw [cEv_eq] at hv
        show (match cl.callee with | .builtin b => aBuiltin P T.get n ty (aEval (regsF l)) b cl.args cl.argTypes | _ => none) = _
        simp only [hb]
        unfold aBuiltin
        simp only [e1, e2, hv]; rfl
      · cases h
    · cases h
  | _ => cases h
end
end Go.Proofs.YtkcahnefekkfaaaAbs

namespace Go.Proofs.YtkcahnefekkfaaaAbs
open Go Go.RowKit
variable [Base]
section
variable {P : Program}
structure EfC where
  f : RL → TM → Nat → Option (Value × Eff)
noncomputable def copyR (b o : Nat) (cs ys : List Value) (k : Nat) : Option (Value × Eff) :=
  bc (ys.all cellOk) (match putF ys cs o with
    | some r => some (.int .i64 (k : Nat), .put b (.row r true))
    | none => none) none
noncomputable def copyF (P : Program) (T : TM) (t : TypeId) (d s : Value) : Option (Value × Eff) := match P.underlying t with
  | some (.slice el) => match tsize P el with
    | some e => match aRead T.get e s with
      | some (m, xs) => match d with
        | .slice (some ⟨b, o, none⟩) dn e' => bc (Nat.beq (minF m dn) 0) (some (.int .i64 0, .none)) (bc (Nat.beq e' e) (match T.get b with
          | some (.row cs true) => bc (Nat.ble (Nat.mul (minF m dn) e) xs.length) (copyR b o cs (xs.take (Nat.mul (minF m dn) e)) (minF m dn)) none
          | _ => none) none)
        | .slice none 0 0 => some (.int .i64 0, .none)
        | _ => none
      | none => none
    | none => none
  | _ => none
theorem copyF_some {T : TM} {t : TypeId} {d s : Value} {r : Value × Eff} (h : copyF P T t d s = some r) : aCopy P T.get t d s = some r := by
  unfold copyF at h
  unfold aCopy
  split at h
  · rename_i el hu
    simp only [hu]
    split at h
    · rename_i e he
      simp only [he]
      split at h
      · rename_i m xs hr
        simp only [hr]
        split at h
        · rename_i b o dn e'
          rw [minF_eq] at h
          dsimp only
          rcases bc_some h with ⟨h1, h⟩ | ⟨h1, h⟩
          · rw [if_pos (show Nat.min m dn = 0 from (beq_iff _ _).1 h1)]; exact h
          · rw [if_neg (show ¬ Nat.min m dn = 0 from beq_not h1)]
            obtain ⟨h2, h⟩ := bc_one h
            rw [if_pos ((beq_iff _ _).1 h2)]
            split at h
            · rename_i cs hg
              simp only [hg]
              obtain ⟨h3, h⟩ := bc_one h
              unfold copyR at h
              obtain ⟨h4, h⟩ := bc_one h
              split at h
              · rename_i r' hp
                obtain ⟨h5, h6⟩ := putF_some _ _ _ _ hp
                have h3 : min m dn * e ≤ xs.length := (ble_iff _ _).1 h3
                have h5 : o + (xs.take (min m dn * e)).length ≤ cs.length := h5
                rw [List.length_take, Nat.min_eq_left h3] at h5
                rw [if_pos ⟨h4, h5⟩]
                have h6 : r' = splice cs o (xs.take (min m dn * e)) := h6
                rw [h6] at h
                exact h
              · cases h
            · cases h
        · exact h
        · cases h
      · cases h
    · cases h
  · cases h
/-- Operations that do something to the heap. -/
noncomputable def cEff (P : Program) (ty : TypeId) (op : Op) : EfC := match op with
  | .store t a v => match cEv a with
    | ⟨fa⟩ => match cEv v with
      | ⟨fv⟩ => match tsize P t with
        | some s => ⟨fun l T n => match fa l with
          | .pointer (some ⟨b, o, none⟩) => match T.get b with
            | some (.row cs true) => mapE (storeR P b o cs (fv l).cells.toList s)
            | _ => none
          | _ => none⟩
        | none => ⟨fun _ _ _ => none⟩
  | .box _ x => match cEv x with
    | ⟨fx⟩ => ⟨fun l T n => match fx l with
      | v => bc (isJunk v) none (some (.pointer (some ⟨n, 0, none⟩), .new (.row v.cells.toList true)))⟩
  | .alloc t => match zeroFlat P t with
    | some z => ⟨fun l T n => some (.pointer (some ⟨n, 0, none⟩), .new (.row z true))⟩
    | none => ⟨fun _ _ _ => none⟩
  | .makeSlice t a b => match cEv a with
    | ⟨fa⟩ => match cEv b with
      | ⟨fb⟩ => ⟨fun l T n => aMake P n t (fa l) (fb l)⟩
  | .buildSlice t len parts => match P.underlying t with
    | some (.slice el) => match zeroFlat P el, tsize P el with
      | some z, some s => match cEvs (parts.toList.map (·.2)) with
        | ⟨fs⟩ => match parts.toList.map (·.1) with
          | is => ⟨fun l T n => bc (bc (Nat.beq z.length s) (Nat.ble (Nat.mul len s) 16777216) false) (match fillF (fun i => some (Nat.mul i s, s)) (is.zip (fs l)) (zeroRow z len) with
            | some cs => some (.slice (some ⟨n, 0, none⟩) len s, .new (.row cs true))
            | none => none) none⟩
      | _, _ => ⟨fun _ _ _ => none⟩
    | _ => ⟨fun _ _ _ => none⟩
  | .call c => match c.callee with
    | .builtin .copy => match c.args.toList, c.argTypes.toList with
      | [d, s], [t, _] => match cEv d with
        | ⟨fd⟩ => match cEv s with
          | ⟨fs⟩ => ⟨fun l T n => copyF P T t (fd l) (fs l)⟩
      | _, _ => ⟨fun _ _ _ => none⟩
    | .builtin b => match c.args, c.argTypes with
      | xs, ts => ⟨fun l T n => aBuiltin P T.get n ty (aEval (regsF l)) b xs ts⟩
    | _ => ⟨fun _ _ _ => none⟩
  | op => ⟨fun l T n => tOp P ty (aEval (regsF l)) T n op⟩
theorem cEff_some {ty : TypeId} {op : Op} {l : RL} {T : TM} {n : Nat} {r : Value × Eff} (h : (cEff P ty op).f l T n = some r) : tOp P ty (aEval (regsF l)) T n op = some r := by
  cases op with
  | store t a v =>
    have h : ((match tsize P t with
        | some s => (⟨fun l T n => match (cEv a).f l with
          | .pointer (some ⟨b, o, none⟩) => match T.get b with
            | some (.row cs true) => mapE (storeR P b o cs ((cEv v).f l).cells.toList s)
            | _ => none
          | _ => none⟩ : EfC)
        | none => ⟨fun _ _ _ => none⟩) : EfC).f l T n = some r := h
    show mapE (storeF P T t (aEval (regsF l) v) (aEval (regsF l) a)) = some r
    cases hs : tsize P t with
    | none => rw [hs] at h; cases h
    | some s =>
      rw [hs] at h
      have h : (match (cEv a).f l with
          | .pointer (some ⟨b, o, none⟩) => match T.get b with
            | some (.row cs true) => mapE (storeR P b o cs ((cEv v).f l).cells.toList s)
            | _ => none
          | _ => none) = some r := h
      rw [cEv_eq, cEv_eq] at h
      unfold storeF
      split at h
      · rename_i e
        split at h
        · rename_i e'
          simp only [e, e', hs]; exact h
        · cases h
      · cases h
  | box t x =>
    have h : bc (isJunk ((cEv x).f l)) none (some (Value.pointer (some ⟨n, 0, none⟩), Eff.new (.row ((cEv x).f l).cells.toList true))) = some r := h
    rw [cEv_eq] at h
    show (if isJunk (aEval (regsF l) x) = false then some (Value.pointer (some ⟨n, 0, none⟩), Eff.new (.row (aEval (regsF l) x).cells.toList true)) else none) = some r
    rcases bc_some h with ⟨_, h⟩ | ⟨h1, h⟩
    · cases h
    · rw [if_pos h1]; exact h
  | alloc t =>
    have h : ((match zeroFlat P t with
      | some z => (⟨fun l T n => some (.pointer (some ⟨n, 0, none⟩), .new (.row z true))⟩ : EfC)
      | none => ⟨fun _ _ _ => none⟩) : EfC).f l T n = some r := h
    show (zeroFlat P t).map (fun z => (Value.pointer (some ⟨n, 0, none⟩), Eff.new (.row z true))) = some r
    cases hz : zeroFlat P t with
    | none => rw [hz] at h; cases h
    | some z => rw [hz] at h; exact h
  | makeSlice t a b =>
    have h : aMake P n t ((cEv a).f l) ((cEv b).f l) = some r := h
    rw [cEv_eq, cEv_eq] at h
    exact h
  | buildSlice t len parts =>
    have h : ((match P.underlying t with
    | some (.slice el) => match zeroFlat P el, tsize P el with
      | some z, some s => (⟨fun l T n => bc (bc (Nat.beq z.length s) (Nat.ble (Nat.mul len s) 16777216) false) (match fillF (fun i => some (Nat.mul i s, s)) ((parts.toList.map (·.1)).zip ((cEvs (parts.toList.map (·.2))).f l)) (zeroRow z len) with
            | some cs => some (.slice (some ⟨n, 0, none⟩) len s, .new (.row cs true))
            | none => none) none⟩ : EfC)
      | _, _ => ⟨fun _ _ _ => none⟩
    | _ => ⟨fun _ _ _ => none⟩) : EfC).f l T n = some r := h
    show aOp P ty (aEval (regsF l)) T.get n (.buildSlice t len parts) = some r
    unfold aOp
    split at h
    · rename_i el hu
      simp only [hu]
      split at h
      · rename_i z s hz hs
        simp only [hz, hs]
        have h : bc (bc (Nat.beq z.length s) (Nat.ble (Nat.mul len s) 16777216) false) (match fillF (fun i => some (Nat.mul i s, s)) ((parts.toList.map (·.1)).zip ((cEvs (parts.toList.map (·.2))).f l)) (zeroRow z len) with
            | some cs => some (Value.slice (some ⟨n, 0, none⟩) len s, Eff.new (.row cs true))
            | none => none) none = some r := h
        rw [cEvs_eq, zip_map] at h
        obtain ⟨h1, h⟩ := bc_one h
        have h2 : z.length = s ∧ len * s ≤ 16777216 := by
          simp only [bc_if] at h1
          split at h1
          · rename_i e; exact ⟨(beq_iff _ _).1 e, (ble_iff _ _).1 h1⟩
          · cases h1
        rw [if_pos h2]
        split at h
        · rename_i cs e
          cases h
          have e2 := fillF_some _ _ _ _ e
          show (aFill (fun i => some (Nat.mul i s, s)) (zeroRow z len) (parts.toList.map fun p => (p.1, aEval (regsF l) p.2))).map _ = _
          rw [e2]; rfl
        · cases h
      · cases h
    · cases h
  | call c =>
    obtain ⟨callee, args, ats⟩ := c
    cases callee with
    | builtin b =>
      cases b with
      | copy =>
        have h : ((match args.toList, ats.toList with
          | [d, s], [t, _] => (⟨fun l T n => copyF P T t ((cEv d).f l) ((cEv s).f l)⟩ : EfC)
          | _, _ => ⟨fun _ _ _ => none⟩) : EfC).f l T n = some r := h
        show aBuiltin P T.get n ty (aEval (regsF l)) .copy args ats = some r
        unfold aBuiltin
        split at h
        · rename_i d s t t' e1 e2
          simp only [e1, e2]
          have h : copyF P T t ((cEv d).f l) ((cEv s).f l) = some r := h
          rw [cEv_eq, cEv_eq] at h
          exact copyF_some h
        · cases h
      | _ => exact h
    | _ => cases h
  | _ => exact h

structure StC where
  f : TCall → RL → TM → Nat → Nat → KT → Option TR
noncomputable def callOf (op : Op) : Option (Operand × List Operand) := match op with
  | .call c => match c.callee with
    | .value f => some (f, c.args.toList)
    | _ => none
  | _ => none
theorem callOf_some {op : Op} {f : Operand} {args : List Operand} (h : callOf op = some (f, args)) (T : Regs) : aCall T op = match aEval T f with
    | .func (.func k) first captured => some (k, first.toList ++ args.map (aEval T) ++ captured.toList)
    | _ => none := by
  cases op with
  | call c =>
    obtain ⟨callee, xs, ats⟩ := c
    cases callee with
    | value g => cases h; rfl
    | _ => cases h
  | _ => cases h
theorem callOf_none {op : Op} (h : callOf op = none) (T : Regs) : aCall T op = none := by
  cases op with
  | call c =>
    obtain ⟨callee, xs, ats⟩ := c
    cases callee with
    | value g => cases h
    | _ => rfl
  | _ => rfl
noncomputable def cDo (P : Program) (o : ROp) : StC := match cPush o.dst with
  | ⟨p⟩ => match callOf o.op with
    | some (f, args) => match cEv f with
      | ⟨ff⟩ => match cEvs args with
        | ⟨fs⟩ => match o.fl with
          | fl => ⟨fun call l T n low K => match ff l with
            | .func (.func k) first captured => match call k (first.toList ++ fs l ++ captured.toList) T n with
              | some r => bc (bc fl true r.quiet) (K (p r.v l) r.T r.n (minF low r.low)) none
              | none => none
            | _ => none⟩
    | none => match cVal P o.op with
      | some ⟨g⟩ => ⟨fun _ l T n low K => match g l T with
        | some v => K (p v l) T n low
        | none => none⟩
      | none => match cEff P o.ty o.op with
        | ⟨g⟩ => match o.fl with
          | fl => ⟨fun _ l T n low K => match g l T n with
            | some (v, ε) => match ε with
              | .none => K (p v l) T n low
              | .new x => bc fl (match TM.put (some x) T n with
                | some T => K (p v l) T (Nat.succ n) low
                | none => none) none
              | .put i x => bc fl (match TM.put (some x) T i with
                | some T => K (p v l) T n (minF low i)
                | none => none) none
              | .move i x => bc fl (match TM.put none T i with
                | some T => match TM.put (some x) T n with
                  | some T => K (p v l) T (Nat.succ n) (minF low i)
                  | none => none
                | none => none) none
            | none => none⟩
def StOk (f : TCall → RL → TM → Nat → Nat → KT → Option TR) (g : TCall → RL → TM → Nat → Nat → Option TS) : Prop := ∀ call call' l T n low K r, CallLe call call' → f call l T n low K = some r →
  ∃ l' T' n' low', g call' l T n low = some (l', T', n', low') ∧ K l' T' n' low' = some r
theorem cDo_ok (o : ROp) : StOk (cDo P o).f (fun call l T n low => top P call o l T n low) := by
  intro call call' l T n low K r hle h
  unfold cDo at h
  have hp := cPush_eq o.dst
  revert h hp
  rcases cPush o.dst with ⟨p⟩
  intro h hp
  have hp : ∀ v l, p v l = push o.dst v l := hp
  cases hc : callOf o.op with
  | some fa =>
    obtain ⟨f, args⟩ := fa
    rw [hc] at h
    have h : (match (cEv f).f l with
            | .func (.func k) first captured => match call k (first.toList ++ (cEvs args).f l ++ captured.toList) T n with
              | some r => bc (bc o.fl true r.quiet) (K (p r.v l) r.T r.n (minF low r.low)) none
              | none => none
            | _ => none) = some r := h
    rw [cEv_eq, cEvs_eq] at h
    show ∃ l' T' n' low', top P call' o l T n low = _ ∧ _
    unfold top
    rw [callOf_some hc]
    split at h
    · rename_i k first captured e
      simp only [e]
      split at h
      · rename_i r' hr
        obtain ⟨h1, h⟩ := bc_one h
        simp only [hle _ _ _ _ _ hr, h1, bc_t]
        refine ⟨_, _, _, _, rfl, ?_⟩
        rw [← hp]; exact h
      · cases h
    · cases h
  | none =>
    rw [hc] at h
    show ∃ l' T' n' low', top P call' o l T n low = _ ∧ _
    unfold top
    rw [callOf_none hc]
    cases hv : cVal P o.op with
    | some c =>
      rw [hv] at h
      have h : (match c.f l T with
        | some v => K (p v l) T n low
        | none => none) = some r := h
      split at h
      · rename_i v e
        simp only [(cVal_ok hv).2 o.ty l T n v e]
        refine ⟨_, _, _, _, rfl, ?_⟩
        rw [← hp]; exact h
      · cases h
    | none =>
      rw [hv] at h
      have h : (match (cEff P o.ty o.op).f l T n with
            | some (v, ε) => match ε with
              | .none => K (p v l) T n low
              | .new x => bc o.fl (match TM.put (some x) T n with
                | some T => K (p v l) T (Nat.succ n) low
                | none => none) none
              | .put i x => bc o.fl (match TM.put (some x) T i with
                | some T => K (p v l) T n (minF low i)
                | none => none) none
              | .move i x => bc o.fl (match TM.put none T i with
                | some T => match TM.put (some x) T n with
                  | some T => K (p v l) T (Nat.succ n) (minF low i)
                  | none => none
                | none => none) none
            | none => none) = some r := h
      split at h
      · rename_i v ε e
        simp only [cEff_some e]
        split at h
        · refine ⟨_, _, _, _, rfl, ?_⟩
          rw [← hp]; exact h
        · obtain ⟨h1, h⟩ := bc_one h
          split at h
          · rename_i T' e'
            simp only [h1, bc_t, tputs, e']
            refine ⟨_, _, _, _, rfl, ?_⟩
            rw [← hp]; exact h
          · cases h
        · obtain ⟨h1, h⟩ := bc_one h
          split at h
          · rename_i T' e'
            simp only [h1, bc_t, tputs, e']
            refine ⟨_, _, _, _, rfl, ?_⟩
            rw [← hp]; exact h
          · cases h
        · obtain ⟨h1, h⟩ := bc_one h
          split at h
          · rename_i T' e'
            split at h
            · rename_i T'' e''
              simp only [h1, bc_t, tmoves, tputs, e', e'']
              refine ⟨_, _, _, _, rfl, ?_⟩
              rw [← hp]; exact h
            · cases h
          · cases h
      · cases h
noncomputable def cStep (P : Program) (o : ROp) : StC := match o.guard with
  | .none => cDo P o
  | .never => match cPush o.dst with
    | ⟨p⟩ => ⟨fun _ l T n low K => K (p undef l) T n low⟩
  | .some t want => match cDo P o with
    | ⟨f⟩ => match cPush o.dst with
      | ⟨p⟩ => ⟨fun call l T n low K => match lookF t l with
        | .bool b => bc (bc b want (notF want)) (f call l T n low K) (K (p undef l) T n low)
        | .tuple _ => K (p undef l) T n low
        | _ => none⟩
theorem cStep_ok (o : ROp) : StOk (cStep P o).f (fun call l T n low => tstep P call o l T n low) := by
  intro call call' l T n low K r hle h
  unfold cStep at h
  show ∃ l' T' n' low', tstep P call' o l T n low = _ ∧ _
  unfold tstep
  cases hg : o.guard with
  | none => rw [hg] at h; exact cDo_ok o call call' l T n low K r hle h
  | never =>
    rw [hg] at h
    have h : K ((cPush o.dst).f undef l) T n low = some r := h
    rw [cPush_eq] at h
    exact ⟨_, _, _, _, rfl, h⟩
  | some t want =>
    rw [hg] at h
    have h : (match lookF t l with
        | .bool b => bc (bc b want (notF want)) ((cDo P o).f call l T n low K) (K ((cPush o.dst).f undef l) T n low)
        | .tuple _ => K ((cPush o.dst).f undef l) T n low
        | _ => none) = some r := h
    rw [cPush_eq] at h
    dsimp only
    split at h
    · rename_i b e
      try simp only [e]
      rcases bc_some h with ⟨h1, h⟩ | ⟨h1, h⟩
      · rw [h1]; exact cDo_ok o call call' l T n low K r hle h
      · rw [h1]; exact ⟨_, _, _, _, rfl, h⟩
    · rename_i e; try simp only [e]
      exact ⟨_, _, _, _, rfl, h⟩
    · cases h
noncomputable def cRun (P : Program) (ops : List ROp) : StC := List.rec ⟨fun _ l T n low K => K l T n low⟩ (fun o _ ih => match cStep P o with
  | ⟨f⟩ => match ih with
    | ⟨g⟩ => ⟨fun call l T n low K => f call l T n low fun l T n low => g call l T n low K⟩) ops
theorem cRun_ok : ∀ (ops : List ROp), StOk (cRun P ops).f (fun call l T n low => trun P call ops l T n low)
  | [] => fun call call' l T n low K r hle h => ⟨_, _, _, _, rfl, h⟩
  | o :: rest => fun call call' l T n low K r hle h => by
    have h : (cStep P o).f call l T n low (fun l T n low => (cRun P rest).f call l T n low K) = some r := h
    obtain ⟨l1, T1, n1, low1, e1, h⟩ := cStep_ok o call call' _ _ _ _ _ _ hle h
    obtain ⟨l2, T2, n2, low2, e2, h⟩ := cRun_ok rest call call' _ _ _ _ _ _ hle h
    refine ⟨l2, T2, n2, low2, ?_, h⟩
    show (match tstep P call' o l T n low with | some (l, T, n, low) => trun P call' rest l T n low | none => none) = _
    have e1 : tstep P call' o l T n low = _ := e1
    rw [e1]; exact e2

/-! ### Drawn regions -/
structure SdC where
  f : TCall → DLog → RL → TM → Nat → Nat → (DLog → KT) → Option TR
noncomputable def cDoD (P : Program) (o : DOp) : SdC := match cPush o.dst with
  | ⟨p⟩ => match callOf o.op with
    | some (f, args) => match cEv f with
      | ⟨ff⟩ => match cEvs args with
        | ⟨fs⟩ => match o.un, o.i with
          | un, oi => ⟨fun call log l T n low K => match ff l with
            | .func (.func k) first captured => match xcutF log n un with
              | m => match call k (first.toList ++ fs l ++ captured.toList) (bc (Nat.beq m n) T (partT m T)) n with
                | some r => bc (bc (Nat.ble n r.low) (bc (Nat.ble m n) (dsepF log (.rng 0 m) (.bs []) un) false) false)
                  (bc r.quiet (K ((oi, ⟨.rng 0 m, .bs [], n, n⟩) :: log) (p r.v l) T n low)
                    (K ((oi, ⟨.rng 0 m, .bs [], n, r.n⟩) :: log) (p r.v l) (bc (Nat.beq m n) r.T (laidT n T r.T)) r.n low)) none
                | none => none
            | _ => none⟩
    | none => match cVal P o.op with
      | some ⟨g⟩ => match pureOp o.op with
        | true => ⟨fun _ log l T n low K => match g l T with
          | some v => K log (p v l) T n low
          | none => none⟩
        | false => match o.un, o.i, o.op with
          | un, oi, op => ⟨fun _ log l T n low K => match g l T with
            | some v => match opFpF l op with
              | fp => bc (dsepF log (.bs fp) (.bs []) un) (K ((oi, ⟨.bs fp, .bs [], n, n⟩) :: log) (p v l) T n low) none
            | none => none⟩
      | none => ⟨fun call log l T n low K => match topD P call o log l T n low with
        | some (log, l, T, n, low) => K log l T n low
        | none => none⟩
def SdOk (f : TCall → DLog → RL → TM → Nat → Nat → (DLog → KT) → Option TR) (g : TCall → DLog → RL → TM → Nat → Nat → Option TDS) : Prop := ∀ call call' log l T n low K r, CallLe call call' → f call log l T n low K = some r →
  ∃ log' l' T' n' low', g call' log l T n low = some (log', l', T', n', low') ∧ K log' l' T' n' low' = some r
theorem cDoD_ok (o : DOp) : SdOk (cDoD P o).f (fun call log l T n low => topD P call o log l T n low) := by
  intro call call' log l T n low K r hle h
  unfold cDoD at h
  have hp := cPush_eq o.dst
  revert h hp
  rcases cPush o.dst with ⟨p⟩
  intro h hp
  have hp : ∀ v l, p v l = push o.dst v l := hp
  cases hc : callOf o.op with
  | some fa =>
    obtain ⟨f, args⟩ := fa
    rw [hc] at h
    have h : (match (cEv f).f l with
            | .func (.func k) first captured => match call k (first.toList ++ (cEvs args).f l ++ captured.toList) (bc (Nat.beq (xcutF log n o.un) n) T (partT (xcutF log n o.un) T)) n with
                | some r => bc (bc (Nat.ble n r.low) (bc (Nat.ble (xcutF log n o.un) n) (dsepF log (.rng 0 (xcutF log n o.un)) (.bs []) o.un) false) false)
                  (bc r.quiet (K ((o.i, ⟨.rng 0 (xcutF log n o.un), .bs [], n, n⟩) :: log) (p r.v l) T n low)
                    (K ((o.i, ⟨.rng 0 (xcutF log n o.un), .bs [], n, r.n⟩) :: log) (p r.v l) (bc (Nat.beq (xcutF log n o.un) n) r.T (laidT n T r.T)) r.n low)) none
                | none => none
            | _ => none) = some r := h
    rw [cEv_eq, cEvs_eq] at h
    show ∃ log' l' T' n' low', topD P call' o log l T n low = _ ∧ _
    unfold topD
    rw [callOf_some hc]
    split at h
    · rename_i k first captured e
      simp only [e]
      split at h
      · rename_i r' hr
        obtain ⟨h1, h⟩ := bc_one h
        simp only [hle _ _ _ _ _ hr, h1, bc_t]
        rcases bc_some h with ⟨h2, h⟩ | ⟨h2, h⟩
        · rw [h2]; refine ⟨_, _, _, _, _, rfl, ?_⟩; rw [← hp]; exact h
        · rw [h2]; refine ⟨_, _, _, _, _, rfl, ?_⟩; rw [← hp]; exact h
      · cases h
    · cases h
  | none =>
    rw [hc] at h
    show ∃ log' l' T' n' low', topD P call' o log l T n low = _ ∧ _
    cases hv : cVal P o.op with
    | some c =>
      rw [hv] at h
      cases hpo : pureOp o.op with
      | true =>
        rw [hpo] at h
        have h : (match c.f l T with
          | some v => K log (p v l) T n low
          | none => none) = some r := h
        split at h
        · rename_i v e
          unfold topD
          rw [callOf_none hc]
          simp only [(cVal_ok hv).2 o.ty l T n v e, hpo, bc_t]
          refine ⟨_, _, _, _, _, rfl, ?_⟩
          rw [← hp]; exact h
        · cases h
      | false =>
        rw [hpo] at h
        have h : (match c.f l T with
            | some v => bc (dsepF log (.bs (opFpF l o.op)) (.bs []) o.un) (K ((o.i, ⟨.bs (opFpF l o.op), .bs [], n, n⟩) :: log) (p v l) T n low) none
            | none => none) = some r := h
        split at h
        · rename_i v e
          obtain ⟨h1, h⟩ := bc_one h
          unfold topD
          rw [callOf_none hc]
          simp only [(cVal_ok hv).2 o.ty l T n v e, hpo, bc_f, h1, bc_t]
          refine ⟨_, _, _, _, _, rfl, ?_⟩
          rw [← hp]; exact h
        · cases h
    | none =>
      rw [hv] at h
      have h : (match topD P call o log l T n low with
        | some (log, l, T, n, low) => K log l T n low
        | none => none) = some r := h
      split at h
      · rename_i e
        refine ⟨_, _, _, _, _, ?_, h⟩
        unfold topD at e ⊢
        rw [callOf_none hc] at e ⊢
        exact e
      · cases h
noncomputable def cStepD (P : Program) (o : DOp) : SdC := match o.guard with
  | .none => cDoD P o
  | .never => match cPush o.dst with
    | ⟨p⟩ => ⟨fun _ log l T n low K => K log (p undef l) T n low⟩
  | .some t want => match cDoD P o with
    | ⟨f⟩ => match cPush o.dst with
      | ⟨p⟩ => ⟨fun call log l T n low K => match lookF t l with
        | .bool b => bc (bc b want (notF want)) (f call log l T n low K) (K log (p undef l) T n low)
        | .tuple _ => K log (p undef l) T n low
        | _ => none⟩
theorem cStepD_ok (o : DOp) : SdOk (cStepD P o).f (fun call log l T n low => tstepD P call o log l T n low) := by
  intro call call' log l T n low K r hle h
  unfold cStepD at h
  show ∃ log' l' T' n' low', tstepD P call' o log l T n low = _ ∧ _
  unfold tstepD
  cases hg : o.guard with
  | none => rw [hg] at h; exact cDoD_ok o call call' log l T n low K r hle h
  | never =>
    rw [hg] at h
    have h : K log ((cPush o.dst).f undef l) T n low = some r := h
    rw [cPush_eq] at h
    exact ⟨_, _, _, _, _, rfl, h⟩
  | some t want =>
    rw [hg] at h
    have h : (match lookF t l with
        | .bool b => bc (bc b want (notF want)) ((cDoD P o).f call log l T n low K) (K log ((cPush o.dst).f undef l) T n low)
        | .tuple _ => K log ((cPush o.dst).f undef l) T n low
        | _ => none) = some r := h
    rw [cPush_eq] at h
    dsimp only
    split at h
    · rename_i b e
      try simp only [e]
      rcases bc_some h with ⟨h1, h⟩ | ⟨h1, h⟩
      · rw [h1]; exact cDoD_ok o call call' log l T n low K r hle h
      · rw [h1]; exact ⟨_, _, _, _, _, rfl, h⟩
    · rename_i e; try simp only [e]
      exact ⟨_, _, _, _, _, rfl, h⟩
    · cases h
noncomputable def cRunD (P : Program) (ops : List DOp) : SdC := List.rec ⟨fun _ log l T n low K => K log l T n low⟩ (fun o _ ih => match cStepD P o with
  | ⟨f⟩ => match ih with
    | ⟨g⟩ => ⟨fun call log l T n low K => f call log l T n low fun log l T n low => g call log l T n low K⟩) ops
theorem cRunD_ok : ∀ (ops : List DOp) (call call' : TCall) (log : DLog) (l : RL) (T : TM) (n low : Nat) (K : DLog → KT) (r : TR), CallLe call call' → (cRunD P ops).f call log l T n low K = some r →
    ∃ log' l' T' n' low', trunD P call' ops log l T n low = some (l', T', n', low') ∧ K log' l' T' n' low' = some r
  | [], call, call', log, l, T, n, low, K, r, hle, h => ⟨_, _, _, _, _, rfl, h⟩
  | o :: rest, call, call', log, l, T, n, low, K, r, hle, h => by
    have h : (cStepD P o).f call log l T n low (fun log l T n low => (cRunD P rest).f call log l T n low K) = some r := h
    obtain ⟨log1, l1, T1, n1, low1, e1, h⟩ := cStepD_ok o call call' _ _ _ _ _ _ _ hle h
    obtain ⟨log2, l2, T2, n2, low2, e2, h⟩ := cRunD_ok rest call call' _ _ _ _ _ _ _ hle h
    refine ⟨log2, l2, T2, n2, low2, ?_, h⟩
    show (match tstepD P call' o log l T n low with | some (log, l, T, n, low) => trunD P call' rest log l T n low | none => none) = _
    have e1 : tstepD P call' o log l T n low = _ := e1
    rw [e1]; exact e2

/-! ### Code -/
structure CdC where
  f : TCall → Nat → RL → TM → Nat → Nat → KT → (Nat → KT) → KT → Option TR
noncomputable def cLoop (fb : TCall → Nat → RL → TM → Nat → Nat → KT → (Nat → KT) → KT → Option TR) (rs : List Tmp) (call : TCall) (k : Nat) (Kx : Nat → KT) (Kr : KT) (m : Nat) : KT :=
  Nat.rec (fun _ _ _ _ => none) (fun _ ih l T n low => fb call k (keepF rs l) T n low ih Kx Kr) m
noncomputable def cCode (P : Program) (rc : RCode) : CdC :=
  RCode.rec ⟨fun _ _ l T n low Kn _ _ => Kn l T n low⟩
    (fun ops => match cRun P ops with
      | ⟨f⟩ => ⟨fun call _ l T n low Kn _ _ => f call l T n low Kn⟩)
    (fun ops => match cRunD P ops with
      | ⟨f⟩ => ⟨fun call _ l T n low Kn _ _ => f call [] l T n low fun _ => Kn⟩)
    (fun _ _ a b => match a with
      | ⟨fa⟩ => match b with
        | ⟨fb⟩ => ⟨fun call k l T n low Kn Kx Kr => fa call k l T n low (fun l T n low => fb call k l T n low Kn Kx Kr) Kx Kr⟩)
    (fun c _ _ a b => match cEv c with
      | ⟨fc⟩ => match a with
        | ⟨fa⟩ => match b with
          | ⟨fb⟩ => ⟨fun call k l T n low Kn Kx Kr => match fc l with
            | .bool t => bc t (fa call k l T n low Kn Kx Kr) (fb call k l T n low Kn Kx Kr)
            | _ => none⟩)
    (fun id _ b => match b with
      | ⟨fb⟩ => ⟨fun call k l T n low Kn Kx Kr => fb call k l T n low Kn (fun id' l T n low => bc (Nat.beq id' id) (Kn l T n low) (Kx id' l T n low)) Kr⟩)
    (fun rs _ b => match b with
      | ⟨fb⟩ => ⟨fun call k l T n low _ Kx Kr => cLoop fb rs call k Kx Kr k l T n low⟩)
    (fun id => ⟨fun _ _ l T n low _ Kx _ => Kx id l T n low⟩)
    ⟨fun _ _ l T n low _ _ Kr => Kr l T n low⟩
    (fun rs _ b => match b with
      | ⟨fb⟩ => ⟨fun call k l T n low Kn Kx Kr => fb call k (keepF rs l) T n low Kn Kx Kr⟩) rc
def disp (Kn : KT) (Kx : Nat → KT) (Kr : KT) : Exit → KT
  | .normal => Kn
  | .exit id => Kx id
  | .ret => Kr
  | _ => fun _ _ _ _ => none
def CdOk (f : TCall → Nat → RL → TM → Nat → Nat → KT → (Nat → KT) → KT → Option TR) (g : TCall → Nat → RL → TM → Nat → Nat → Option TE) : Prop := ∀ call call' k l T n low Kn Kx Kr r, CallLe call call' → f call k l T n low Kn Kx Kr = some r →
  ∃ e l' T' n' low', g call' k l T n low = some (e, l', T', n', low') ∧ disp Kn Kx Kr e l' T' n' low' = some r
theorem cLoop_ok {fb : TCall → Nat → RL → TM → Nat → Nat → KT → (Nat → KT) → KT → Option TR} {g : TCall → Nat → RL → TM → Nat → Nat → Option TE} (hb : CdOk fb g) (rs : List Tmp) {call call' : TCall} (hle : CallLe call call') (k : Nat) (Kn : KT) (Kx : Nat → KT) (Kr : KT) (r : TR) : ∀ (m : Nat) (l : RL) (T : TM) (n low : Nat), cLoop fb rs call k Kx Kr m l T n low = some r →
    ∃ e l' T' n' low', tloop (g call' k) rs m l T n low = some (e, l', T', n', low') ∧ disp Kn Kx Kr e l' T' n' low' = some r
  | 0, l, T, n, low, h => by cases h
  | m + 1, l, T, n, low, h => by
    have h : fb call k (keepF rs l) T n low (cLoop fb rs call k Kx Kr m) Kx Kr = some r := h
    obtain ⟨e, l1, T1, n1, low1, e1, h⟩ := hb call call' _ _ _ _ _ _ _ _ _ hle h
    show ∃ e l' T' n' low', (match g call' k (keepF rs l) T n low with | some (.normal, l, T, n, low) => tloop (g call' k) rs m l T n low | r => r) = _ ∧ _
    rw [e1]
    cases e with
    | normal => exact cLoop_ok hb rs hle k Kn Kx Kr r m _ _ _ _ h
    | exit id => exact ⟨_, _, _, _, _, rfl, h⟩
    | ret => exact ⟨_, _, _, _, _, rfl, h⟩
    | _ => cases h
theorem cCode_ok : ∀ (rc : RCode), CdOk (cCode P rc).f (fun call k l T n low => tcode P call k rc l T n low) := by
  intro rc
  induction rc with
  | skip => exact fun call call' k l T n low Kn Kx Kr r hle h => ⟨_, _, _, _, _, rfl, h⟩
  | exit id => exact fun call call' k l T n low Kn Kx Kr r hle h => ⟨_, _, _, _, _, rfl, h⟩
  | ret => exact fun call call' k l T n low Kn Kx Kr r hle h => ⟨_, _, _, _, _, rfl, h⟩
  | keep rs b ih =>
    intro call call' k l T n low Kn Kx Kr r hle h
    exact ih call call' k _ _ _ _ Kn Kx Kr r hle h
  | region ops =>
    intro call call' k l T n low Kn Kx Kr r hle h
    obtain ⟨l1, T1, n1, low1, e1, h⟩ := cRun_ok ops call call' _ _ _ _ _ _ hle (show (cRun P ops).f call l T n low Kn = some r from h)
    refine ⟨.normal, l1, T1, n1, low1, ?_, h⟩
    show (match trun P call' ops l T n low with | some (l, T, n, low) => some (Exit.normal, l, T, n, low) | none => none) = _
    have e1 : trun P call' ops l T n low = _ := e1
    rw [e1]
  | regionD ops =>
    intro call call' k l T n low Kn Kx Kr r hle h
    obtain ⟨log, l1, T1, n1, low1, e1, h⟩ := cRunD_ok ops call call' _ _ _ _ _ _ _ hle (show (cRunD P ops).f call [] l T n low (fun _ => Kn) = some r from h)
    refine ⟨.normal, l1, T1, n1, low1, ?_, h⟩
    show (match trunD P call' ops [] l T n low with | some (l, T, n, low) => some (Exit.normal, l, T, n, low) | none => none) = _
    rw [e1]
  | seq a b iha ihb =>
    intro call call' k l T n low Kn Kx Kr r hle h
    have h : (cCode P a).f call k l T n low (fun l T n low => (cCode P b).f call k l T n low Kn Kx Kr) Kx Kr = some r := h
    obtain ⟨e, l1, T1, n1, low1, e1, h⟩ := iha call call' k _ _ _ _ _ _ _ _ hle h
    show ∃ e l' T' n' low', (match tcode P call' k a l T n low with | some (.normal, l, T, n, low) => tcode P call' k b l T n low | r => r) = _ ∧ _
    have e1 : tcode P call' k a l T n low = _ := e1
    rw [e1]
    cases e with
    | normal => exact ihb call call' k _ _ _ _ _ _ _ _ hle h
    | exit id => exact ⟨_, _, _, _, _, rfl, h⟩
    | ret => exact ⟨_, _, _, _, _, rfl, h⟩
    | _ => cases h
  | cond c a b iha ihb =>
    intro call call' k l T n low Kn Kx Kr r hle h
    have h : (match (cEv c).f l with
            | .bool t => bc t ((cCode P a).f call k l T n low Kn Kx Kr) ((cCode P b).f call k l T n low Kn Kx Kr)
            | _ => none) = some r := h
    rw [cEv_eq] at h
    split at h
    · rename_i t e
      have key : tcode P call' k (.cond c a b) l T n low = bc t (tcode P call' k a l T n low) (tcode P call' k b l T n low) := by
        show (match aEval (regsF l) c with | .bool t => bc t (tcode P call' k a l T n low) (tcode P call' k b l T n low) | _ => none) = _
        rw [e]
      show ∃ e l' T' n' low', tcode P call' k (.cond c a b) l T n low = _ ∧ _
      rw [key]
      cases t with
      | true => exact iha call call' k _ _ _ _ _ _ _ _ hle h
      | false => exact ihb call call' k _ _ _ _ _ _ _ _ hle h
    · cases h
  | block id b ih =>
    intro call call' k l T n low Kn Kx Kr r hle h
    have h : (cCode P b).f call k l T n low Kn (fun id' l T n low => bc (Nat.beq id' id) (Kn l T n low) (Kx id' l T n low)) Kr = some r := h
    obtain ⟨e, l1, T1, n1, low1, e1, h⟩ := ih call call' k _ _ _ _ _ _ _ _ hle h
    show ∃ e l' T' n' low', (match tcode P call' k b l T n low with | some (.exit id', l, T, n, low) => bc (Nat.beq id' id) (some (Exit.normal, l, T, n, low)) (some (Exit.exit id', l, T, n, low)) | r => r) = _ ∧ _
    have e1 : tcode P call' k b l T n low = _ := e1
    rw [e1]
    cases e with
    | normal => exact ⟨_, _, _, _, _, rfl, h⟩
    | exit id' =>
      have h : bc (Nat.beq id' id) (Kn l1 T1 n1 low1) (Kx id' l1 T1 n1 low1) = some r := h
      dsimp only
      cases hb : Nat.beq id' id
      · rw [hb] at h; exact ⟨_, _, _, _, _, rfl, h⟩
      · rw [hb] at h; exact ⟨_, _, _, _, _, rfl, h⟩
    | ret => exact ⟨_, _, _, _, _, rfl, h⟩
    | _ => cases h
  | loop rs b ih =>
    intro call call' k l T n low Kn Kx Kr r hle h
    exact cLoop_ok ih rs hle k Kn Kx Kr r k l T n low h
/-- A call. -/
noncomputable def cfn (P : Program) (tab : XTab) (ext : XExt) (k : Nat) (d : Nat) : TCall :=
  Nat.rec (fun _ _ _ _ => none) (fun _ ih f args T n => match extA ext f args T.get n with
    | some v => some ⟨v, T, n, n, true⟩
    | none => match tabF tab f with
      | none => none
      | some (rc, rs, na) => match cCode P rc with
        | ⟨fc⟩ => bc (Nat.beq args.length na) (fc ih k (argL 0 args) T n n (fun l T1 n1 low => match resultsF P T1 l rs with
            | some v => bc (bc (flatR v) (Nat.ble n low) false) (some ⟨v, T, n, n, true⟩) (some ⟨v, T1, n1, low, false⟩)
            | none => none) (fun _ _ _ _ _ => none) (fun l T1 n1 low => match resultsF P T1 l rs with
            | some v => bc (bc (flatR v) (Nat.ble n low) false) (some ⟨v, T, n, n, true⟩) (some ⟨v, T1, n1, low, false⟩)
            | none => none)) none) d
theorem cfn_le (tab : XTab) (ext : XExt) (k : Nat) : ∀ d, CallLe (cfn P tab ext k d) (tfn P tab ext k d)
  | 0 => fun f args T n r h => by cases h
  | d + 1 => fun f args T n r h => by
    have h : (match extA ext f args T.get n with
    | some v => some (⟨v, T, n, n, true⟩ : TR)
    | none => match tabF tab f with
      | none => none
      | some (rc, rs, na) => bc (Nat.beq args.length na) ((cCode P rc).f (cfn P tab ext k d) k (argL 0 args) T n n (fun l T1 n1 low => match resultsF P T1 l rs with
            | some v => bc (bc (flatR v) (Nat.ble n low) false) (some ⟨v, T, n, n, true⟩) (some ⟨v, T1, n1, low, false⟩)
            | none => none) (fun _ _ _ _ _ => none) (fun l T1 n1 low => match resultsF P T1 l rs with
            | some v => bc (bc (flatR v) (Nat.ble n low) false) (some ⟨v, T, n, n, true⟩) (some ⟨v, T1, n1, low, false⟩)
            | none => none)) none) = some r := h
    show (match extA ext f args T.get n with
      | some v => some (⟨v, T, n, n, true⟩ : TR)
      | none => match tabF tab f with
        | none => none
        | some (rc, rs, na) => bc (Nat.beq args.length na) (match tcode P (tfn P tab ext k d) k rc (argL 0 args) T n n with
          | some (e, l, T1, n1, low) => bc (Exit.fine e) (match resultsF P T1 l rs with
            | some v => bc (bc (flatR v) (Nat.ble n low) false) (some ⟨v, T, n, n, true⟩) (some ⟨v, T1, n1, low, false⟩)
            | none => none) none
          | none => none) none) = some r
    revert h
    cases extA ext f args T.get n with
    | some v => exact id
    | none =>
      cases tabF tab f with
      | none => exact id
      | some x =>
        obtain ⟨rc, rs, na⟩ := x
        intro h
        obtain ⟨h1, h⟩ := bc_one h
        dsimp only
        rw [h1, bc_t]
        obtain ⟨e, l1, T1, n1, low1, e1, h⟩ := cCode_ok rc _ _ k _ _ _ _ _ _ _ _ (cfn_le tab ext k d) h
        have e1 : tcode P (tfn P tab ext k d) k rc (argL 0 args) T n n = _ := e1
        rw [e1]
        cases e with
        | normal => exact h
        | ret => exact h
        | _ => cases h
theorem quick_fnC (hm : P.follows .mixedOrders = true) {tab : XTab} (ht : TabOk P tab) {ext : XExt} (hx : ExtOk P ext) {k d : Nat} {f : FuncId} {args : List Value} (h : yesT (cfn P tab ext k d f args TM.none 0) = true) : ∃ low, FnC P f args (fun _ => none) 0 (fun i => low ≤ i) (.bool true) (fun _ => none) 0 := by
  obtain ⟨r, h1, h2, h3⟩ := yesT_some h
  refine yes_fnC hm ht hx (k := k) (d := d) ?_
  rw [cfn_le tab ext k d _ _ _ _ _ h1]
  unfold yesT
  simp only [h2, h3]; rfl
end
end Go.Proofs.YtkcahnefekkfaaaAbs

namespace Go.Proofs.YtkcahnefekkfaaaAbs
open Go Go.RowKit
variable [Base]
section
variable {P : Program}
theorem FnC.framed {f : FuncId} {args0 args : List Value} {g0 g g0' : AMem} {n0 n n0' : Nat} {t : Nat → Prop} {v : Value} {σ : Nat → Nat}
    (h : FnC P f args0 g0 n0 t v g0' n0') (ht : ∀ i, i < n0 → ¬ t i) (hv : flatR v = true)
    (hσ : ∀ i j, g0 i ≠ none → g0 j ≠ none → σ i = σ j → i = j)
    (hg : ∀ i o, g0 i = some o → i < n0 ∧ ∃ o', g (σ i) = some o' ∧ ORen n0 σ o o')
    (ha : VRens n0 σ args0 args) : FnC P f args g n (fun _ => False) v g n := by
  intro ρ w cargs hbase hrep hargs
  have lt : ∀ i, g0 i ≠ none → i < n0 ∧ g (σ i) ≠ none := fun i hi => by
    obtain ⟨o, ho⟩ := Option.ne_none_iff_exists'.1 hi
    obtain ⟨h1, o', h2, _⟩ := hg i o ho
    exact ⟨h1, by rw [h2]; simp⟩
  have hrep0 : GRep (fun i => if i < n0 then ρ (σ i) else none) g0 n0 w := ⟨fun i o hi => by
      obtain ⟨h1, o', h2, h3⟩ := hg i o hi
      obtain ⟨b, co, e1, e2, e3⟩ := hrep.obj _ _ h2
      exact ⟨b, co, by simp [h1, e1], e2, h3.rel e3⟩, fun i j b hi hj ei ej => by
      obtain ⟨i1, i2⟩ := lt i hi
      obtain ⟨j1, j2⟩ := lt j hj
      simp only [i1, j1, if_true] at ei ej
      exact hσ i j hi hj (hrep.inj _ _ b i2 j2 ei ej), fun i hi => by simp [Nat.not_lt.2 hi], fun i b hi => by
      split at hi
      · exact hrep.old _ b hi
      · cases hi⟩
  refine (h _ w cargs ⟨hbase.base, fun i b hi hti => absurd hti (ht i hi)⟩ hrep0 (ha.rel hargs)).mono fun e w' he => ?_
  obtain ⟨cv, ρ', rfl, ht'⟩ := he
  have hval : VRel ρ (szOf w') v cv := by
    have key : VRen 0 id v v := flatR_ren hv
    have := key.rel (ρ := ρ') cv (by simpa using ht'.val)
    exact this.mono (fun i b hi => by simp at hi) fun _ => Nat.le_refl _
  have hfr : Frame0 (fun _ => False) w w' := ht'.frame.mono fun b _ ⟨i, hi, hti, _⟩ => ht i hi hti
  refine ⟨cv, ρ, rfl, hval, ⟨fun i o hi => ?_, hrep.inj, hrep.dom, fun i b hi => Nat.lt_of_lt_of_le (hrep.old i b hi) hfr.size⟩, Nat.le_refl _, fun _ _ => rfl, hfr.mono fun b _ h => h.elim, fun j b hj hb => ?_, fun _ _ h => h⟩
  · obtain ⟨b, co, h1, h2, h3⟩ := hrep.obj i o hi
    have hb := (Array.getElem?_eq_some_iff.1 h2).1
    exact ⟨b, co, h1, by rw [hfr.block b hb id]; exact h2, h3.mono (fun _ _ h => h) hfr.cells⟩
  · rw [hrep.dom j hj] at hb; cases hb

/-! ### Values that are the same -/
noncomputable def sameV : Value → Value → Bool
  | .int k a, .int k' b => bc (eqF a b) (Nat.beq (kIx k) (kIx k')) false
  | .bool a, .bool b => beqF a b
  | _, _ => false
theorem sameV_eq {x y : Value} (h : sameV x y = true) : x = y ∧ flatV x = true := by
  unfold sameV at h
  split at h
  · rename_i k a k' b
    cases e : eqF a b
    · rw [e] at h; cases h
    · rw [e] at h
      rw [eqF_eq, decide_eq_true_iff] at e
      obtain rfl := kIx_inj ((beq_iff _ _).1 h)
      exact ⟨by rw [e], rfl⟩
  · rename_i a b
    rw [beqF_eq] at h
    exact ⟨by rw [eq_of_beq h], rfl⟩
  · cases h
noncomputable def sameL (xs : List Value) : List Value → Bool := List.rec (fun ys => match ys with
  | [] => true
  | _ => false) (fun x _ ih ys => match ys with
  | [] => false
  | y :: ys => bc (sameV x y) (ih ys) false) xs
theorem sameL_eq : ∀ {xs ys : List Value}, sameL xs ys = true → xs = ys ∧ xs.all flatV = true
  | [], [], _ => ⟨rfl, rfl⟩
  | [], _ :: _, h => by cases h
  | _ :: _, [], h => by cases h
  | x :: xs, y :: ys, h => by
    have h : bc (sameV x y) (sameL xs ys) false = true := h
    cases e : sameV x y
    · rw [e] at h; cases h
    · rw [e] at h
      obtain ⟨h1, h2⟩ := sameV_eq e
      obtain ⟨h3, h4⟩ := sameL_eq (xs := xs) (ys := ys) h
      exact ⟨by rw [h1, h3], by simp only [List.all_cons, h2, h4, Bool.and_self]⟩

/-! ### A table of calls that read two rows: numbers ahead, two slices -/
structure Memo where
  hd : List Value
  l1 : Nat
  e1 : Nat
  l2 : Nat
  e2 : Nat
  s : List Value
  t : List Value
  v : Bool
def Memo.arg (m : Memo) (b1 b2 : Nat) : Value := .agg (m.hd ++ [Value.slice (some ⟨b1, 0, none⟩) m.l1 m.e1, Value.slice (some ⟨b2, 0, none⟩) m.l2 m.e2]).toArray
noncomputable def Memo.T (m : Memo) : TM := .tr (.node (some (.row m.s true)) (.node (some (.row m.t true)) .nil .nil) .nil)
theorem Memo.get (m : Memo) (i : Nat) : m.T.get i = if i = 0 then some (.row m.s true) else if i = 1 then some (.row m.t true) else none := by
  show (Tr.node (some (.row m.s true)) (.node (some (.row m.t true)) .nil .nil) .nil).get i = _
  rw [Tr.get_node, Tr.get_node]
  simp only [Tr.get_nil, ite_self]
  by_cases h0 : i = 0
  · simp [h0]
  · by_cases h1 : i = 1
    · simp [h1]
    · rw [if_neg h0, if_neg h0, if_neg h1]
      split
      · rw [if_neg (by omega)]
      · rfl
def MemoOk (P : Program) (f : FuncId) (m : Memo) : Prop := FnC P f [m.arg 0 1] m.T.get 2 (fun i => 2 ≤ i) (.bool m.v) m.T.get 2
noncomputable def yesM (v : Bool) (n : Nat) (o : Option TR) : Bool := match o with
  | some r => match r.v with
    | .bool b => bc (beqF b v) (bc r.quiet (Nat.ble n r.low) false) false
    | _ => false
  | none => false
theorem memo_run (hm : P.follows .mixedOrders = true) {tab : XTab} (ht : TabOk P tab) {ext : XExt} (hx : ExtOk P ext) {k d : Nat} {f : FuncId} {m : Memo} (h : yesM m.v 2 (cfn P tab ext k d f [m.arg 0 1] m.T 2) = true) : MemoOk P f m := by
  unfold yesM at h
  split at h
  · rename_i r h1
    split at h
    · rename_i b hb
      cases e1 : beqF b m.v
      · rw [e1] at h; cases h
      · rw [e1] at h
        cases e2 : r.quiet
        · rw [e2] at h; cases h
        · rw [e2] at h
          have h3 : 2 ≤ r.low := (ble_iff _ _).1 h
          have h4 := tfn_sim tab ext k d _ _ _ _ _ (cfn_le tab ext k d _ _ _ _ _ h1)
          obtain ⟨_, h5, h6, _⟩ := xfnE_ok hm ht hx k d f _ _ 2 _ (fun i hi => by
            rw [Memo.get] at hi
            by_cases h0 : i = 0
            · omega
            · by_cases h1 : i = 1
              · omega
              · simp [h0, h1] at hi) h4
          obtain ⟨h7, h8⟩ := h6 e2
          have h5 : FnC P f [m.arg 0 1] m.T.get 2 (fun i => r.low ≤ i) r.v r.T.get r.n := h5
          have e7 : r.T.get = m.T.get := h7
          have e8 : r.n = 2 := h8
          rw [beqF_eq] at e1
          rw [e7, e8, hb, eq_of_beq e1] at h5
          exact h5.touches fun i hi hl => by omega
    · cases h
  · cases h
noncomputable def memoL (hd : List Value) (l1 e1 l2 e2 : Nat) (s t : List Value) (tbl : List Memo) : Option Value := List.rec none (fun m _ ih =>
  bc (bc (Nat.beq m.l1 l1) (bc (Nat.beq m.e1 e1) (bc (Nat.beq m.l2 l2) (bc (Nat.beq m.e2 e2) (bc (sameL m.hd hd) (bc (sameL m.s s) (sameL m.t t) false) false) false) false) false) false) (some (.bool m.v)) ih) tbl
noncomputable def memoF (tbl : List Memo) (args : List Value) (g : AMem) (n : Nat) : Option Value := match args with
  | [.agg cs] => match cs.toList with
    | [a, b, c, .slice (some ⟨b1, o1, none⟩) l1 e1, .slice (some ⟨b2, o2, none⟩) l2 e2] => match g b1 with
      | some (.row s true) => match g b2 with
        | some (.row t true) => bc (Nat.beq b1 b2) none (bc (Nat.beq o1 0) (bc (Nat.beq o2 0) (memoL [a, b, c] l1 e1 l2 e2 s t tbl) none) none)
        | _ => none
      | _ => none
    | _ => none
  | _ => none
theorem memoL_some {hd : List Value} {l1 e1 l2 e2 : Nat} {s t : List Value} : ∀ {tbl : List Memo} {v : Value}, memoL hd l1 e1 l2 e2 s t tbl = some v → ∃ m, m ∈ tbl ∧ m.l1 = l1 ∧ m.e1 = e1 ∧ m.l2 = l2 ∧ m.e2 = e2 ∧ sameL m.hd hd = true ∧ sameL m.s s = true ∧ sameL m.t t = true ∧ v = .bool m.v
  | [], v, h => by cases h
  | m :: tbl, v, h => by
    have h : bc (bc (Nat.beq m.l1 l1) (bc (Nat.beq m.e1 e1) (bc (Nat.beq m.l2 l2) (bc (Nat.beq m.e2 e2) (bc (sameL m.hd hd) (bc (sameL m.s s) (sameL m.t t) false) false) false) false) false) false) (some (.bool m.v)) (memoL hd l1 e1 l2 e2 s t tbl) = some v := h
    rcases bc_some h with ⟨h1, h⟩ | ⟨_, h⟩
    · cases h
      simp only [bc_if] at h1
      split at h1
      · split at h1
        · split at h1
          · split at h1
            · split at h1
              · split at h1
                · rename_i a1 a2 a3 a4 a5 a6
                  exact ⟨m, List.mem_cons_self, (beq_iff _ _).1 a1, (beq_iff _ _).1 a2, (beq_iff _ _).1 a3, (beq_iff _ _).1 a4, a5, a6, h1, rfl⟩
                · cases h1
              · cases h1
            · cases h1
          · cases h1
        · cases h1
      · cases h1
    · obtain ⟨m', hm, r⟩ := memoL_some (tbl := tbl) h
      exact ⟨m', List.mem_cons_of_mem _ hm, r⟩
theorem memo_ok {f : FuncId} {tbl : List Memo} (hgo : goFn P f = true) (h : ∀ m, m ∈ tbl → MemoOk P f m) : ExtOne P f (memoF tbl) := by
  intro args g n v hd he
  refine ⟨hgo, ?_⟩
  unfold memoF at he
  split at he
  · rename_i cs
    split at he
    · rename_i a b c b1 o1 l1 e1 b2 o2 l2 e2 hcs
      split at he
      · rename_i s hs
        split at he
        · rename_i t ht
          rcases bc_some he with ⟨_, he⟩ | ⟨hne, he⟩
          · cases he
          obtain ⟨z1, he⟩ := bc_one he
          obtain ⟨z2, he⟩ := bc_one he
          have z1 := (beq_iff _ _).1 z1
          have z2 := (beq_iff _ _).1 z2
          subst z1; subst z2
          have hne := beq_not hne
          obtain ⟨m, hm, rfl, rfl, rfl, rfl, q1, q2, q3, rfl⟩ := memoL_some he
          obtain ⟨p1, f1⟩ := sameL_eq q1
          obtain ⟨p2, f2⟩ := sameL_eq q2
          obtain ⟨p3, f3⟩ := sameL_eq q3
          have hc : Value.agg cs = m.arg b1 b2 := by
            unfold Memo.arg
            rw [p1]
            congr 1
            apply Array.ext'
            rw [hcs]; rfl
          rw [hc]
          refine FnC.framed (σ := fun i => if i = 0 then b1 else b2) (h m hm) (fun i hi h => by omega) rfl (fun i j hi hj e => ?_) (fun i o hi => ?_) ⟨rfl, fun i h1 h2 => ?_⟩
          · rw [Memo.get] at hi hj
            by_cases i0 : i = 0 <;> by_cases j0 : j = 0
            · omega
            · simp [i0, j0] at e; exact absurd e hne
            · simp [i0, j0] at e; exact absurd e.symm hne
            · by_cases i1 : i = 1
              · by_cases j1 : j = 1
                · omega
                · simp [j0, j1] at hj
              · simp [i0, i1] at hi
          · rw [Memo.get] at hi
            by_cases i0 : i = 0
            · subst i0
              simp at hi; subst hi
              exact ⟨by omega, _, by simpa [p2] using hs, .row _ _ _ (flats_ren f2)⟩
            · by_cases i1 : i = 1
              · subst i1
                simp at hi; subst hi
                exact ⟨by omega, _, by simpa [p3] using ht, .row _ _ _ (flats_ren f3)⟩
              · simp [i0, i1] at hi
          · have : i = 0 := by simp at h1; omega
            subst this
            show VRen 2 _ (m.arg 0 1) (m.arg b1 b2)
            have key : VRens 2 (fun i => if i = 0 then b1 else b2) (m.hd ++ [.slice (some ⟨0, 0, none⟩) m.l1 m.e1, .slice (some ⟨1, 0, none⟩) m.l2 m.e2]) (m.hd ++ [.slice (some ⟨b1, 0, none⟩) m.l1 m.e1, .slice (some ⟨b2, 0, none⟩) m.l2 m.e2]) := by
              refine ⟨by simp, fun i h1 h2 => ?_⟩
              by_cases hi : i < m.hd.length
              · rw [List.getElem_append_left hi, List.getElem_append_left hi]
                exact .flat _ (List.all_eq_true.1 f1 _ (List.getElem_mem hi))
              · rw [List.getElem_append_right (by omega), List.getElem_append_right (by omega)]
                have h3 : i - m.hd.length < 2 := by simp at h1; omega
                rcases Nat.lt_or_ge (i - m.hd.length) 1 with h4 | h4
                · have e : i - m.hd.length = 0 := by omega
                  simp only [e]
                  exact .slice 0 0 _ _ (by omega)
                · have e : i - m.hd.length = 1 := by omega
                  simp only [e]
                  exact .slice 1 0 _ _ (by omega)
            exact .agg _ _ (by simp) fun i h1 h2 => by simpa using key.at_ i (by simpa using h1) (by simpa using h2)
        · cases he
      · cases he
    · cases he
  · cases he
end
end Go.Proofs.YtkcahnefekkfaaaAbs

namespace Go.Proofs.YtkcahnefekkfaaaAbs
open Go Go.RowKit
variable [Base]
section
variable {P : Program}
def fIx : FloatKind → Nat
  | .f32 => 0
  | .f64 => 1
theorem fIx_inj {k k' : FloatKind} (h : fIx k = fIx k') : k = k' := by cases k <;> cases k' <;> first | rfl | (simp [fIx] at h)
noncomputable def sameC (x y : Value) : Bool := match x with
  | .complex k a b => match y with
    | .complex k' a' b' => bc (Nat.beq (fIx k) (fIx k')) (bc (Nat.beq a a') (Nat.beq b b') false) false
    | _ => false
  | x => sameV x y
theorem sameC_eq {x y : Value} (h : sameC x y = true) : x = y := by
  unfold sameC at h
  split at h
  · rename_i k a b
    split at h
    · rename_i k' a' b'
      cases e : Nat.beq (fIx k) (fIx k')
      · rw [e] at h; cases h
      · rw [e] at h
        cases e2 : Nat.beq a a'
        · rw [e2] at h; cases h
        · rw [e2] at h
          rw [fIx_inj ((beq_iff _ _).1 e), (beq_iff _ _).1 e2, (beq_iff _ _).1 h]
    · cases h
  · exact (sameV_eq h).1
/-- The same, told to so great a depth. -/
noncomputable def sameX (d : Nat) : Value → Value → Bool := Nat.rec (fun x y => sameC x y) (fun _ ih x y => match x with
  | .agg xs => match y with
    | .agg ys => List.rec (motive := fun _ => List Value → Bool) (fun ys => match ys with
      | [] => true
      | _ => false) (fun x _ ihl ys => match ys with
      | [] => false
      | y :: ys => bc (ih x y) (ihl ys) false) xs.toList ys.toList
    | _ => false
  | .tuple xs => match y with
    | .tuple ys => List.rec (motive := fun _ => List Value → Bool) (fun ys => match ys with
      | [] => true
      | _ => false) (fun x _ ihl ys => match ys with
      | [] => false
      | y :: ys => bc (ih x y) (ihl ys) false) xs.toList ys.toList
    | _ => false
  | x => sameC x y) d
noncomputable def sameLX (p : Value → Value → Bool) (xs : List Value) : List Value → Bool := List.rec (motive := fun _ => List Value → Bool) (fun ys => match ys with
  | [] => true
  | _ => false) (fun x _ ihl ys => match ys with
  | [] => false
  | y :: ys => bc (p x y) (ihl ys) false) xs
theorem sameLX_eq {p : Value → Value → Bool} (hp : ∀ x y, p x y = true → x = y) : ∀ {xs ys : List Value}, sameLX p xs ys = true → xs = ys
  | [], [], _ => rfl
  | [], _ :: _, h => by cases h
  | _ :: _, [], h => by cases h
  | x :: xs, y :: ys, h => by
    have h : bc (p x y) (sameLX p xs ys) false = true := h
    cases e : p x y
    · rw [e] at h; cases h
    · rw [e] at h; rw [hp _ _ e, sameLX_eq hp (xs := xs) (ys := ys) h]
theorem sameX_eq : ∀ (d : Nat) (x y : Value), sameX d x y = true → x = y
  | 0, x, y, h => sameC_eq h
  | d + 1, x, y, h => by
    have h : (match (generalizing := false) x with
      | .agg xs => match (generalizing := false) y with
        | .agg ys => sameLX (sameX d) xs.toList ys.toList
        | _ => false
      | .tuple xs => match (generalizing := false) y with
        | .tuple ys => sameLX (sameX d) xs.toList ys.toList
        | _ => false
      | x => sameC x y) = true := h
    split at h
    · split at h
      · rename_i xs ys; rw [Array.ext' (sameLX_eq (sameX_eq d) h)]
      · cases h
    · split at h
      · rename_i xs ys; rw [Array.ext' (sameLX_eq (sameX_eq d) h)]
      · cases h
    · exact sameC_eq h
noncomputable def yesX (v : Value) (n : Nat) (o : Option TR) : Bool := match o with
  | some r => bc (sameX 3 r.v v) (bc r.quiet (Nat.ble n r.low) false) false
  | none => false
theorem yesX_run (hm : P.follows .mixedOrders = true) {tab : XTab} (ht : TabOk P tab) {ext : XExt} (hx : ExtOk P ext) {k d : Nat} {f : FuncId} {args : List Value} {v : Value} {T : TM} {n : Nat} (hd : ∀ i, T.get i ≠ none → i < n) (h : yesX v n (cfn P tab ext k d f args T n) = true) : FnC P f args T.get n (fun i => n ≤ i) v T.get n := by
  unfold yesX at h
  split at h
  · rename_i r h1
    cases e1 : sameX 3 r.v v
    · rw [e1] at h; cases h
    · rw [e1] at h
      cases e2 : r.quiet
      · rw [e2] at h; cases h
      · rw [e2] at h
        have h3 : n ≤ r.low := (ble_iff _ _).1 h
        have h4 := tfn_sim tab ext k d _ _ _ _ _ (cfn_le tab ext k d _ _ _ _ _ h1)
        obtain ⟨_, h5, h6, _⟩ := xfnE_ok hm ht hx k d f _ _ n _ hd h4
        obtain ⟨h7, h8⟩ := h6 e2
        have h5 : FnC P f args T.get n (fun i => r.low ≤ i) r.v r.T.get r.n := h5
        have e7 : r.T.get = T.get := h7
        have e8 : r.n = n := h8
        rw [e7, e8, sameX_eq _ _ _ e1] at h5
        exact h5.touches fun i hi hl => by omega
  · cases h

/-! ### Closed arguments -/
structure CMemo where
  args : List Value
  v : Value
def CMemoOk (P : Program) (f : FuncId) (m : CMemo) : Prop := FnC P f m.args (fun _ => none) 0 (fun i => 0 ≤ i) m.v (fun _ => none) 0 ∧ m.args.all pureV = true ∧ flatR m.v = true
theorem cmemo_run (hm : P.follows .mixedOrders = true) {tab : XTab} (ht : TabOk P tab) {ext : XExt} (hx : ExtOk P ext) {k d : Nat} {f : FuncId} {m : CMemo} (h : yesX m.v 0 (cfn P tab ext k d f m.args TM.none 0) = true) (ha : m.args.all pureV = true) (hv : flatR m.v = true) : CMemoOk P f m :=
  ⟨yesX_run hm ht hx (T := TM.none) (fun i hi => absurd rfl hi) h, ha, hv⟩
noncomputable def cmemoF (tbl : List CMemo) (args : List Value) (g : AMem) (n : Nat) : Option Value := List.rec none (fun m _ ih => bc (sameLX (sameX 2) m.args args) (some m.v) ih) tbl
theorem cmemo_ok {f : FuncId} {tbl : List CMemo} (hgo : goFn P f = true) (h : ∀ m, m ∈ tbl → CMemoOk P f m) : ExtOne P f (cmemoF tbl) := by
  intro args g n v hd he
  refine ⟨hgo, ?_⟩
  induction tbl with
  | nil => cases he
  | cons m tbl ih =>
    have he : bc (sameLX (sameX 2) m.args args) (some m.v) (cmemoF tbl args g n) = some v := he
    rcases bc_some he with ⟨h1, he⟩ | ⟨_, he⟩
    · cases he
      obtain ⟨a, b, c⟩ := h m List.mem_cons_self
      rw [← sameLX_eq (sameX_eq 2) h1]
      exact FnC.closed a b c g n
    · exact ih (fun m hm => h m (List.mem_cons_of_mem _ hm)) he

/-! ### Two slices -/
structure PMemo where
  l1 : Nat
  e1 : Nat
  l2 : Nat
  e2 : Nat
  s : List Value
  t : List Value
  v : Value
def PMemo.args (m : PMemo) (b1 b2 : Nat) : List Value := [.slice (some ⟨b1, 0, none⟩) m.l1 m.e1, .slice (some ⟨b2, 0, none⟩) m.l2 m.e2]
noncomputable def PMemo.T (m : PMemo) : TM := .tr (.node (some (.row m.s true)) (.node (some (.row m.t true)) .nil .nil) .nil)
theorem PMemo.get (m : PMemo) (i : Nat) : m.T.get i = if i = 0 then some (.row m.s true) else if i = 1 then some (.row m.t true) else none :=
  Memo.get ⟨[], 0, 0, 0, 0, m.s, m.t, false⟩ i
def PMemoOk (P : Program) (f : FuncId) (m : PMemo) : Prop := FnC P f (m.args 0 1) m.T.get 2 (fun i => 2 ≤ i) m.v m.T.get 2 ∧ flatR m.v = true
theorem pmemo_run (hm : P.follows .mixedOrders = true) {tab : XTab} (ht : TabOk P tab) {ext : XExt} (hx : ExtOk P ext) {k d : Nat} {f : FuncId} {m : PMemo} (h : yesX m.v 2 (cfn P tab ext k d f (m.args 0 1) m.T 2) = true) (hv : flatR m.v = true) : PMemoOk P f m :=
  ⟨yesX_run hm ht hx (fun i hi => by
    rw [PMemo.get] at hi
    by_cases h0 : i = 0
    · omega
    · by_cases h1 : i = 1
      · omega
      · simp [h0, h1] at hi) h, hv⟩
noncomputable def pmemoL (l1 e1 l2 e2 : Nat) (s t : List Value) (tbl : List PMemo) : Option Value := List.rec none (fun m _ ih =>
  bc (bc (Nat.beq m.l1 l1) (bc (Nat.beq m.e1 e1) (bc (Nat.beq m.l2 l2) (bc (Nat.beq m.e2 e2) (bc (sameL m.s s) (sameL m.t t) false) false) false) false) false) (some m.v) ih) tbl
noncomputable def pmemoF (tbl : List PMemo) (args : List Value) (g : AMem) (n : Nat) : Option Value := match args with
  | [.slice (some ⟨b1, o1, none⟩) l1 e1, .slice (some ⟨b2, o2, none⟩) l2 e2] => match g b1 with
      | some (.row s true) => match g b2 with
        | some (.row t true) => bc (Nat.beq b1 b2) none (bc (Nat.beq o1 0) (bc (Nat.beq o2 0) (pmemoL l1 e1 l2 e2 s t tbl) none) none)
        | _ => none
      | _ => none
  | _ => none
theorem pmemoL_some {l1 e1 l2 e2 : Nat} {s t : List Value} : ∀ {tbl : List PMemo} {v : Value}, pmemoL l1 e1 l2 e2 s t tbl = some v → ∃ m, m ∈ tbl ∧ m.l1 = l1 ∧ m.e1 = e1 ∧ m.l2 = l2 ∧ m.e2 = e2 ∧ sameL m.s s = true ∧ sameL m.t t = true ∧ v = m.v
  | [], v, h => by cases h
  | m :: tbl, v, h => by
    have h : bc (bc (Nat.beq m.l1 l1) (bc (Nat.beq m.e1 e1) (bc (Nat.beq m.l2 l2) (bc (Nat.beq m.e2 e2) (bc (sameL m.s s) (sameL m.t t) false) false) false) false) false) (some m.v) (pmemoL l1 e1 l2 e2 s t tbl) = some v := h
    rcases bc_some h with ⟨h1, h⟩ | ⟨_, h⟩
    · cases h
      simp only [bc_if] at h1
      split at h1
      · split at h1
        · split at h1
          · split at h1
            · split at h1
              · rename_i a1 a2 a3 a4 a5
                exact ⟨m, List.mem_cons_self, (beq_iff _ _).1 a1, (beq_iff _ _).1 a2, (beq_iff _ _).1 a3, (beq_iff _ _).1 a4, a5, h1, rfl⟩
              · cases h1
            · cases h1
          · cases h1
        · cases h1
      · cases h1
    · obtain ⟨m', hm, r⟩ := pmemoL_some (tbl := tbl) h
      exact ⟨m', List.mem_cons_of_mem _ hm, r⟩
theorem pmemo_ok {f : FuncId} {tbl : List PMemo} (hgo : goFn P f = true) (h : ∀ m, m ∈ tbl → PMemoOk P f m) : ExtOne P f (pmemoF tbl) := by
  intro args g n v hd he
  refine ⟨hgo, ?_⟩
  unfold pmemoF at he
  split at he
  · rename_i b1 o1 l1 e1 b2 o2 l2 e2
    split at he
    · rename_i s hs
      split at he
      · rename_i t ht
        rcases bc_some he with ⟨_, he⟩ | ⟨hne, he⟩
        · cases he
        obtain ⟨z1, he⟩ := bc_one he
        obtain ⟨z2, he⟩ := bc_one he
        have z1 := (beq_iff _ _).1 z1
        have z2 := (beq_iff _ _).1 z2
        subst z1; subst z2
        have hne := beq_not hne
        obtain ⟨m, hm, rfl, rfl, rfl, rfl, q2, q3, rfl⟩ := pmemoL_some he
        obtain ⟨p2, f2⟩ := sameL_eq q2
        obtain ⟨p3, f3⟩ := sameL_eq q3
        refine FnC.framed (σ := fun i => if i = 0 then b1 else b2) (h m hm).1 (fun i hi h => by omega) (h m hm).2 (fun i j hi hj e => ?_) (fun i o hi => ?_) ⟨rfl, fun i h1 h2 => ?_⟩
        · rw [PMemo.get] at hi hj
          by_cases i0 : i = 0 <;> by_cases j0 : j = 0
          · omega
          · simp [i0, j0] at e; exact absurd e hne
          · simp [i0, j0] at e; exact absurd e.symm hne
          · by_cases i1 : i = 1
            · by_cases j1 : j = 1
              · omega
              · simp [j0, j1] at hj
            · simp [i0, i1] at hi
        · rw [PMemo.get] at hi
          by_cases i0 : i = 0
          · subst i0
            simp at hi; subst hi
            exact ⟨by omega, _, by simpa [p2] using hs, .row _ _ _ (flats_ren f2)⟩
          · by_cases i1 : i = 1
            · subst i1
              simp at hi; subst hi
              exact ⟨by omega, _, by simpa [p3] using ht, .row _ _ _ (flats_ren f3)⟩
            · simp [i0, i1] at hi
        · have h3 : i < 2 := h1
          rcases Nat.lt_or_ge i 1 with h4 | h4
          · have : i = 0 := by omega
            subst this
            exact VRen.slice 0 0 _ _ (by omega)
          · have : i = 1 := by omega
            subst this
            exact VRen.slice 1 0 _ _ (by omega)
      · cases he
    · cases he
  · cases he

/-! ### One slice -/
structure SMemo where
  l1 : Nat
  e1 : Nat
  s : List Value
  v : Value
def SMemo.args (m : SMemo) (b : Nat) : List Value := [.slice (some ⟨b, 0, none⟩) m.l1 m.e1]
noncomputable def SMemo.T (m : SMemo) : TM := .tr (.node (some (.row m.s true)) .nil .nil)
theorem SMemo.get (m : SMemo) (i : Nat) : m.T.get i = if i = 0 then some (.row m.s true) else none := by
  show (Tr.node (some (.row m.s true)) .nil .nil).get i = _
  rw [Tr.get_node]
  simp only [Tr.get_nil, ite_self]
def SMemoOk (P : Program) (f : FuncId) (m : SMemo) : Prop := FnC P f (m.args 0) m.T.get 1 (fun i => 1 ≤ i) m.v m.T.get 1 ∧ flatR m.v = true
theorem smemo_run (hm : P.follows .mixedOrders = true) {tab : XTab} (ht : TabOk P tab) {ext : XExt} (hx : ExtOk P ext) {k d : Nat} {f : FuncId} {m : SMemo} (h : yesX m.v 1 (cfn P tab ext k d f (m.args 0) m.T 1) = true) (hv : flatR m.v = true) : SMemoOk P f m :=
  ⟨yesX_run hm ht hx (fun i hi => by
    rw [SMemo.get] at hi
    by_cases h0 : i = 0
    · omega
    · simp [h0] at hi) h, hv⟩
noncomputable def smemoL (l1 e1 : Nat) (s : List Value) (tbl : List SMemo) : Option Value := List.rec none (fun m _ ih =>
  bc (bc (Nat.beq m.l1 l1) (bc (Nat.beq m.e1 e1) (sameL m.s s) false) false) (some m.v) ih) tbl
noncomputable def smemoF (tbl : List SMemo) (args : List Value) (g : AMem) (n : Nat) : Option Value := match args with
  | [.slice (some ⟨b1, o1, none⟩) l1 e1] => match g b1 with
      | some (.row s true) => bc (Nat.beq o1 0) (smemoL l1 e1 s tbl) none
      | _ => none
  | _ => none
theorem smemoL_some {l1 e1 : Nat} {s : List Value} : ∀ {tbl : List SMemo} {v : Value}, smemoL l1 e1 s tbl = some v → ∃ m, m ∈ tbl ∧ m.l1 = l1 ∧ m.e1 = e1 ∧ sameL m.s s = true ∧ v = m.v
  | [], v, h => by cases h
  | m :: tbl, v, h => by
    have h : bc (bc (Nat.beq m.l1 l1) (bc (Nat.beq m.e1 e1) (sameL m.s s) false) false) (some m.v) (smemoL l1 e1 s tbl) = some v := h
    rcases bc_some h with ⟨h1, h⟩ | ⟨_, h⟩
    · cases h
      simp only [bc_if] at h1
      split at h1
      · split at h1
        · rename_i a1 a2
          exact ⟨m, List.mem_cons_self, (beq_iff _ _).1 a1, (beq_iff _ _).1 a2, h1, rfl⟩
        · cases h1
      · cases h1
    · obtain ⟨m', hm, r⟩ := smemoL_some (tbl := tbl) h
      exact ⟨m', List.mem_cons_of_mem _ hm, r⟩
theorem smemo_ok {f : FuncId} {tbl : List SMemo} (hgo : goFn P f = true) (h : ∀ m, m ∈ tbl → SMemoOk P f m) : ExtOne P f (smemoF tbl) := by
  intro args g n v hd he
  refine ⟨hgo, ?_⟩
  unfold smemoF at he
  split at he
  · rename_i b1 o1 l1 e1
    split at he
    · rename_i s hs
      obtain ⟨z1, he⟩ := bc_one he
      have z1 := (beq_iff _ _).1 z1
      subst z1
      obtain ⟨m, hm, rfl, rfl, q2, rfl⟩ := smemoL_some he
      obtain ⟨p2, f2⟩ := sameL_eq q2
      refine FnC.framed (σ := fun i => b1) (h m hm).1 (fun i hi h => by omega) (h m hm).2 (fun i j hi hj e => ?_) (fun i o hi => ?_) ⟨rfl, fun i h1 h2 => ?_⟩
      · rw [SMemo.get] at hi hj
        by_cases i0 : i = 0 <;> by_cases j0 : j = 0
        · omega
        · simp [j0] at hj
        · simp [i0] at hi
        · simp [i0] at hi
      · rw [SMemo.get] at hi
        by_cases i0 : i = 0
        · subst i0
          simp at hi; subst hi
          exact ⟨by omega, _, by simpa [p2] using hs, .row _ _ _ (flats_ren f2)⟩
        · simp [i0] at hi
      · have h3 : i < 1 := h1
        have : i = 0 := by omega
        subst this
        exact VRen.slice 0 0 _ _ (by omega)
    · cases he
  · cases he
end
end Go.Proofs.YtkcahnefekkfaaaAbs
