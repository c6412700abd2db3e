/- The abstract layer, part B: no statement is proved here; abstract values, heaps and walks, and that the machine does as they say. -/
import Derived.Test.YtkcahnefekkfaaaAbsA
set_option linter.unusedVariables false
set_option linter.unusedSimpArgs false
set_option linter.unusedSectionVars false
namespace Go.Proofs.YtkcahnefekkfaaaAbs
open Go Go.RowKit
variable [Base]

abbrev APost := Exit → Regs → AMem → Nat → Prop

def aStep (P : Program) (may : Nat → Prop) (ops : Array Oper) (draw : Bool) (i : Nat) (o : Oper) (T : Regs) (g : AMem) (n : Nat) (K : Value → AMem → Nat → Prop) : Prop :=
  match aCall T o.op with
  | some (f, args) => goFn P f = true ∧ ∃ t v g' n', FnC P f args g n t v g' n' ∧ (∀ i, t i → may i) ∧ ((draw = false ∨ ordB ops i = true) ∨ g' = g ∧ n' = n) ∧ K v g' n'
  | none => ∃ v ε, aOp P o.type (aEval T) g n o.op = some (v, ε) ∧ (∀ i, ε.touch i → may i) ∧ ((draw = false ∨ ordB ops i = true) ∨ ε = .none) ∧ K v (ε.mem g n) (ε.next n)
def aRun (P : Program) (may : Nat → Prop) (ops : Array Oper) (draw : Bool) (Q : Regs → AMem → Nat → Prop) : List (Oper × Nat) → Regs → AMem → Nat → Prop
  | [], T, g, n => Q T g n
  | (o, i) :: rest, T, g, n => ∃ b, aWanted ops T o = some b ∧ (b = true → aStep P may ops draw i o T g n fun v g' n' => aRun P may ops draw Q rest (upd T o.dst v) g' n') ∧
      (b = false → aRun P may ops draw Q rest (upd T o.dst undef) g n)

def Exit.thenA (next : Regs → AMem → Nat → Prop) (Q : APost) : APost
  | .normal, T, g, n => next T g n
  | e, T, g, n => Q e T g n
def Exit.inBlockA (id : Nat) (Q : APost) : APost
  | .exit id', T, g, n => if id' = id then Q .normal T g n else Q (.exit id') T g n
  | e, T, g, n => Q e T g n
def aRounds (body : APost → Regs → AMem → Nat → Prop) (Q : APost) : Nat → Regs → AMem → Nat → Prop
  | 0, _, _, _ => False
  | k + 1, T, g, n => body (Exit.thenA (aRounds body Q k) Q) T g n

/-- What must hold ahead of a piece of code. -/
def awp (P : Program) (may : Nat → Prop) : Code → APost → Regs → AMem → Nat → Prop
  | .skip, Q, T, g, n => Q .normal T g n
  | .label _, Q, T, g, n => Q .normal T g n
  | .region _ ops draw, Q, T, g, n => aRun P may ops draw (Q .normal) ops.toList.zipIdx T g n
  | .seq a b, Q, T, g, n => awp P may a (Exit.thenA (awp P may b Q) Q) T g n
  | .cond c x y, Q, T, g, n => ∃ b, aEval T c = .bool b ∧ (b = true → awp P may x Q T g n) ∧ (b = false → awp P may y Q T g n)
  | .block id body, Q, T, g, n => awp P may body (Exit.inBlockA id Q) T g n
  | .loop body, Q, T, g, n => ∃ k, aRounds (awp P may body) Q k T g n
  | .exit id, Q, T, g, n => Q (.exit id) T g n
  | .ret, Q, T, g, n => Q .ret T g n
  | _, _, _, _, _ => False

def codeOk (nt : Nat) : Code → Bool
  | .region _ ops draw => ops.all (fun o => match o.dst with | some d => decide (d < nt) | none => true) && (!draw || drawOk ops)
  | .seq a b => codeOk nt a && codeOk nt b
  | .cond _ a b => codeOk nt a && codeOk nt b
  | .block _ b => codeOk nt b
  | .loop b => codeOk nt b
  | _ => true

section
variable {P : Program} {may : Nat → Prop} {ops : Array Oper} {draw : Bool}

theorem aStep_step {i : Nat} {o : Oper} {T : Regs} {g : AMem} {n : Nat} {K : Value → AMem → Nat → Prop} (h : aStep P may ops draw i o T g n K) :
    ∃ v g' n', Step P may o T g n v g' n' ∧ ((draw = false ∨ ordB ops i = true) ∨ g' = g ∧ n' = n) ∧ K v g' n' := by
  unfold aStep at h
  split at h
  · rename_i f args hc
    obtain ⟨hf, t, v, g', n', h1, h2, h3, h4⟩ := h
    exact ⟨v, g', n', .inr ⟨f, args, t, hc, hf, h1, h2⟩, h3, h4⟩
  · rename_i hc
    obtain ⟨v, ε, h1, h2, h3, h4⟩ := h
    exact ⟨v, _, _, .inl ⟨ε, hc, h1, h2, rfl, rfl⟩, h3.imp id (fun e => by subst e; exact ⟨rfl, rfl⟩), h4⟩

theorem aRun_seq {Q : Regs → AMem → Nat → Prop} : ∀ (l : List (Oper × Nat)) (i0 : Nat) (T : Regs) (g : AMem) (n : Nat), (∀ k, l[k]? = (ops[i0 + k]?).map fun o => (o, i0 + k)) → i0 + l.length = ops.size → aRun P may ops draw Q l T g n →
    ∃ (st : Nat → St) (vs : Nat → Value), st i0 = (T, g, n) ∧ (∀ i, i0 ≤ i → i < ops.size → Rec P may ops draw i (st i) (vs i) (st (i + 1))) ∧ Q (st ops.size).1 (st ops.size).2.1 (st ops.size).2.2
  | [], i0, T, g, n, _, hl, h => ⟨fun _ => (T, g, n), fun _ => undef, rfl, fun i h1 h2 => by simp at hl; omega, h⟩
  | (o, i) :: rest, i0, T, g, n, hk, hl, h => by
    have h0 := hk 0
    simp only [List.getElem?_cons_zero, Nat.add_zero] at h0
    cases ho : ops[i0]? with
    | none => rw [ho] at h0; cases h0
    | some o' =>
      rw [ho] at h0
      simp only [Option.map_some, Option.some.injEq, Prod.mk.injEq] at h0
      obtain ⟨rfl, rfl⟩ := h0
      obtain ⟨b, hw, ht, hf⟩ := h
      have hk' : ∀ k, rest[k]? = (ops[i + 1 + k]?).map fun o => (o, i + 1 + k) := fun k => by
        have := hk (k + 1)
        rw [show i + (k + 1) = i + 1 + k by omega] at this
        simpa using this
      have hl' : i + 1 + rest.length = ops.size := by simp at hl; omega
      have build : ∀ v g' n', (b = true → Step P may o T g n v g' n') → (b = false → v = undef ∧ (g', n') = (g, n)) → ((draw = false ∨ ordB ops i = true) ∨ (g', n') = (g, n)) → aRun P may ops draw Q rest (upd T o.dst v) g' n' →
          ∃ (st : Nat → St) (vs : Nat → Value), st i = (T, g, n) ∧ (∀ j, i ≤ j → j < ops.size → Rec P may ops draw j (st j) (vs j) (st (j + 1))) ∧ Q (st ops.size).1 (st ops.size).2.1 (st ops.size).2.2 := by
        intro v g' n' hs hsk hch hr
        obtain ⟨st, vs, e1, e2, e3⟩ := aRun_seq rest (i + 1) _ _ _ hk' hl' hr
        refine ⟨fun j => if j = i then (T, g, n) else st j, fun j => if j = i then v else vs j, if_pos rfl, fun j hj1 hj2 => ?_, ?_⟩
        · by_cases e : j = i
          · subst e
            simp only [if_pos, if_neg (show ¬ j + 1 = j by omega), e1]
            exact ⟨o, b, ho, hw, hs, hsk, rfl, hch⟩
          · simp only [if_neg e, if_neg (show ¬ j + 1 = i by omega)]
            exact e2 j (by omega) hj2
        · have hne : ¬ ops.size = i := by have := (Array.getElem?_eq_some_iff.1 ho).1; omega
          simp only [if_neg hne]; exact e3
      cases b with
      | true =>
        obtain ⟨v, g', n', h1, h2, h3⟩ := aStep_step (ht rfl)
        exact build v g' n' (fun _ => h1) (fun e => by cases e) (h2.imp id fun ⟨e1, e2⟩ => by rw [e1, e2]) h3
      | false => exact build undef g n (fun e => by cases e) (fun _ => ⟨rfl, rfl⟩) (.inr rfl) (hf rfl)

theorem zipIdx_get (l : List Oper) (k : Nat) : l.zipIdx[k]? = (l[k]?).map fun o => (o, 0 + k) := by
  simp [List.getElem?_zipIdx]
end

section
variable {X : Ctx} {ops : Array Oper}
/-- A region in the text's order. -/
theorem wp_text {st : Nat → St} {vs : Nat → Value} {draw : Bool} (hdst : ∀ (i : Nat) (o : Oper) (d : Tmp), ops[i]? = some o → o.dst = some d → d < X.nt)
    (hrec : ∀ i, i < ops.size → Rec X.P X.may ops draw i (st i) (vs i) (st (i + 1)))
    {Q : Exit → Act → World → Prop} (hQ : ∀ ρ a w, Cfg X (st ops.size).1 (st ops.size).2.1 (st ops.size).2.2 ρ a w → Q .normal a w) :
    ∀ (m i : Nat), i + m = ops.size → ∀ ρ a w, Cfg X (st i).1 (st i).2.1 (st i).2.2 ρ a w → wpOps X.P ops Q (List.range' i m) a w := by
  intro m
  induction m with
  | zero => intro i hi ρ a w h; simp only [Nat.add_zero] at hi; subst hi; exact hQ ρ a w h
  | succ m ih =>
    intro i hi ρ a w h
    obtain ⟨o, b, ho, hw, hstep, hskip, hregs, _⟩ := hrec i (by omega)
    have hwant := aWanted_sound h hw
    simp only [List.range'_succ, wpOps, ho, hwant]
    cases b with
    | false =>
      simp only [Bool.false_eq_true, if_false]
      obtain ⟨hv, hsame⟩ := hskip rfl
      have hc := h.skip (dst := o.dst) (hdst i o · ho)
      refine ih (i + 1) (by omega) ρ _ _ ?_
      rw [hregs, hv, hsame]; exact hc
    | true =>
      simp only [if_true]
      refine .inl ((hstep rfl).wp h (hdst i o · ho) fun cv w' ρ' hc => ih (i + 1) (by omega) ρ' _ _ ?_)
      rw [hregs]; exact hc

/-- What is known of the machine, of what is known of the abstract state. -/
def lift (X : Ctx) (Q : APost) (e : Exit) (a : Act) (w : World) : Prop := ∃ T g n ρ, Cfg X T g n ρ a w ∧ Q e T g n

theorem region_dst {nt : Nat} {ops : Array Oper} (h : ops.all (fun o => match o.dst with | some d => decide (d < nt) | none => true) = true) (i : Nat) (o : Oper) (d : Tmp) (ho : ops[i]? = some o) (hd : o.dst = some d) : d < nt := by
  have := Array.all_eq_true_iff_forall_mem.1 h o (Array.mem_of_getElem? ho)
  simp only [hd, decide_eq_true_eq] at this
  exact this

theorem awp_sound (hm : X.P.follows .mixedOrders = true) : ∀ (c : Code) (Q : APost) (T : Regs) (g : AMem) (n : Nat), codeOk X.nt c = true → awp X.P X.may c Q T g n → ∀ ρ a w, Cfg X T g n ρ a w → c.wp X.P (lift X Q) a w := by
  intro c
  induction c with
  | skip => intro Q T g n _ h ρ a w hc; exact wp_skip ⟨T, g, n, ρ, hc, h⟩
  | label l => intro Q T g n _ h ρ a w hc; exact wp_label ⟨T, g, n, ρ, hc, h⟩
  | exit id => intro Q T g n _ h ρ a w hc; exact wp_exit ⟨T, g, n, ρ, hc, h⟩
  | ret => intro Q T g n _ h ρ a w hc; exact wp_ret ⟨T, g, n, ρ, hc, h⟩
  | region id ops draw =>
    intro Q T g n hok h ρ a w hc
    simp only [codeOk, Bool.and_eq_true] at hok
    have hdst := region_dst hok.1
    obtain ⟨st, vs, e1, e2, e3⟩ := aRun_seq (i0 := 0) ops.toList.zipIdx T g n (fun k => by rw [zipIdx_get]; simp) (by simp) h
    have h0 : (st 0).1 = T ∧ (st 0).2.1 = g ∧ (st 0).2.2 = n := by
      have := e1; rw [this]; exact ⟨rfl, rfl, rfl⟩
    have hc0 : Cfg X (st 0).1 (st 0).2.1 (st 0).2.2 ρ a w := by rw [h0.1, h0.2.1, h0.2.2]; exact hc
    have hfin : ∀ ρ a w, Cfg X (st ops.size).1 (st ops.size).2.1 (st ops.size).2.2 ρ a w → lift X Q .normal a w := fun ρ a w hc => ⟨_, _, _, ρ, hc, e3⟩
    cases draw with
    | false =>
      refine wp_region ?_
      rw [List.range_eq_range']
      exact wp_text hdst (fun i hi => e2 i (Nat.zero_le _) hi) hfin ops.size 0 (by omega) ρ a w hc0
    | true =>
      have hdok : drawOk ops = true := by simpa using hok.2
      exact wp_drawn hm hdok hdst (fun i hi => e2 i (Nat.zero_le _) hi) hc0 hfin
  | seq x y ihx ihy =>
    intro Q T g n hok h ρ a w hc
    simp only [codeOk, Bool.and_eq_true] at hok
    refine wp_seq (wp_mono (ihx _ T g n hok.1 h ρ a w hc) fun e a w hl => ?_)
    obtain ⟨T, g, n, ρ, hc, hq⟩ := hl
    cases e with
    | normal => exact ihy Q T g n hok.2 hq ρ a w hc
    | _ => exact ⟨T, g, n, ρ, hc, hq⟩
  | cond c x y ihx ihy =>
    intro Q T g n hok h ρ a w hc
    simp only [codeOk, Bool.and_eq_true] at hok
    obtain ⟨b, hb, ht, hf⟩ := h
    have hv := hc.eval c
    rw [hb] at hv
    have hcv : a.eval c = .bool b := by cases hcv : a.eval c <;> rw [hcv] at hv <;> cases hv; rfl
    refine wp_cond hcv ?_
    cases b with
    | true => exact ihx Q T g n hok.1 (ht rfl) ρ a w hc
    | false => exact ihy Q T g n hok.2 (hf rfl) ρ a w hc
  | block id b ih =>
    intro Q T g n hok h ρ a w hc
    simp only [codeOk] at hok
    refine wp_block (wp_mono (ih _ T g n hok h ρ a w hc) fun e a w hl => ?_)
    obtain ⟨T, g, n, ρ, hc, hq⟩ := hl
    cases e with
    | exit id' =>
      simp only [Exit.inBlockA] at hq
      simp only [Exit.inBlock]
      split
      · rename_i e; rw [if_pos e] at hq; exact ⟨T, g, n, ρ, hc, hq⟩
      · rename_i e; rw [if_neg e] at hq; exact ⟨T, g, n, ρ, hc, hq⟩
    | _ => exact ⟨T, g, n, ρ, hc, hq⟩
  | loop b ih =>
    intro Q T g n hok h ρ a w hc
    simp only [codeOk] at hok
    obtain ⟨k, hk⟩ := h
    refine wp_loop_rounds k ?_
    induction k generalizing T g n ρ a w with
    | zero => exact hk.elim
    | succ k ihk =>
      rw [rounds_succ]
      refine wp_mono (ih _ T g n hok hk ρ a w hc) fun e a w hl => ?_
      obtain ⟨T, g, n, ρ, hc, hq⟩ := hl
      cases e with
      | normal => exact ihk T g n ρ a w hc hq
      | _ => exact ⟨T, g, n, ρ, hc, hq⟩
  | _ => intro Q T g n _ h; exact h.elim

/-! ### More is known -/
theorem aRun_mono {P : Program} {may : Nat → Prop} {draw : Bool} {Q Q' : Regs → AMem → Nat → Prop} (hq : ∀ T g n, Q T g n → Q' T g n) : ∀ (l : List (Oper × Nat)) (T : Regs) (g : AMem) (n : Nat), aRun P may ops draw Q l T g n → aRun P may ops draw Q' l T g n
  | [], T, g, n, h => hq T g n h
  | (o, i) :: rest, T, g, n, ⟨b, h1, h2, h3⟩ => by
    refine ⟨b, h1, fun hb => ?_, fun hb => aRun_mono hq rest _ _ _ (h3 hb)⟩
    have := h2 hb
    unfold aStep at this ⊢
    split at this
    · rename_i f args hc
      obtain ⟨hf, t, v, g', n', e1, e2, e3, e4⟩ := this
      exact ⟨hf, t, v, g', n', e1, e2, e3, aRun_mono hq rest _ _ _ e4⟩
    · obtain ⟨v, ε, e1, e2, e3, e4⟩ := this
      exact ⟨v, ε, e1, e2, e3, aRun_mono hq rest _ _ _ e4⟩
theorem awp_mono {P : Program} {may : Nat → Prop} : ∀ (c : Code) {Q Q' : APost}, (∀ e T g n, Q e T g n → Q' e T g n) → ∀ T g n, awp P may c Q T g n → awp P may c Q' T g n := by
  intro c
  induction c with
  | region id ops draw => intro Q Q' hq T g n h; exact aRun_mono (hq .normal) _ T g n h
  | seq x y ihx ihy => intro Q Q' hq T g n h; exact ihx (fun e T g n h => by cases e <;> first | exact ihy hq T g n h | exact hq _ _ _ _ h) T g n h
  | cond c x y ihx ihy => intro Q Q' hq T g n ⟨b, h1, h2, h3⟩; exact ⟨b, h1, fun e => ihx hq T g n (h2 e), fun e => ihy hq T g n (h3 e)⟩
  | block id b ih =>
    intro Q Q' hq T g n h
    refine ih (fun e T g n h => ?_) T g n h
    cases e with
    | exit id' => simp only [Exit.inBlockA] at h ⊢; split <;> rename_i e <;> simp only [e, if_true, if_false] at h <;> exact hq _ _ _ _ h
    | _ => exact hq _ _ _ _ h
  | loop b ih =>
    intro Q Q' hq T g n ⟨k, h⟩
    refine ⟨k, ?_⟩
    induction k generalizing T g n with
    | zero => exact h
    | succ k ihk => exact ih (fun e T g n h => by cases e <;> first | exact ihk T g n h | exact hq _ _ _ _ h) T g n h
  | skip | label | exit | ret => intro Q Q' hq T g n h; exact hq _ _ _ _ h
  | _ => intro Q Q' hq T g n h; exact h.elim

/-- **A loop by what holds at its head**, a number going down. -/
theorem awp_loop {P : Program} {may : Nat → Prop} {b : Code} {Q : APost} (I : Nat → Regs → AMem → Nat → Prop)
    (round : ∀ k T g n, I k T g n → awp P may b (Exit.thenA (fun T g n => ∃ k', k' < k ∧ I k' T g n) Q) T g n) {k : Nat} {T : Regs} {g : AMem} {n : Nat} (h : I k T g n) : awp P may (.loop b) Q T g n := by
  suffices ∀ (k : Nat) (T : Regs) (g : AMem) (n : Nat), I k T g n → ∀ m, k < m → aRounds (awp P may b) Q m T g n from ⟨k + 1, this k T g n h _ (Nat.lt_succ_self _)⟩
  intro k
  induction k using Nat.strongRecOn with
  | _ k ih =>
    intro T g n h m hm
    obtain ⟨m, rfl⟩ : ∃ m', m = m' + 1 := ⟨m - 1, by omega⟩
    refine awp_mono b (fun e T g n h => ?_) T g n (round k T g n h)
    cases e with
    | normal =>
      obtain ⟨k', h1, h2⟩ := h
      exact ih k' h1 T g n h2 m (by omega)
    | _ => exact h
end
end Go.Proofs.YtkcahnefekkfaaaAbs

namespace Go.Proofs.YtkcahnefekkfaaaAbs
open Go Go.RowKit
variable [Base]

/-! ### Numbers given anew -/
/-- 'v1' is 'v', its blocks' numbers (all below m) given anew. -/
inductive VRen (m : Nat) (σ : Nat → Nat) : Value → Value → Prop
  | flat (v : Value) (h : flatV v = true) : VRen m σ v v
  | junk (v : Value) : VRen m σ YtkcahnefekkfaaaAbs.junk v
  | ptr (b o : Nat) (h : b < m) : VRen m σ (.pointer (some ⟨b, o, none⟩)) (.pointer (some ⟨σ b, o, none⟩))
  | slice (b o k e : Nat) (h : b < m) : VRen m σ (.slice (some ⟨b, o, none⟩) k e) (.slice (some ⟨σ b, o, none⟩) k e)
  | sliceLost (a a' : Addr) (e e' : Nat) (h : a.spot = some 0) (h' : a'.spot = some 0) : VRen m σ (.slice (some a) 0 e) (.slice (some a') 0 e')
  | sliceFull (a a' : Addr) (e e' : Nat) (h : a.spot = some 1) (h' : a'.spot = some 1) : VRen m σ (.slice (some a) 0 e) (.slice (some a') 0 e')
  | map (b : Nat) (h : b < m) : VRen m σ (.map (some b)) (.map (some (σ b)))
  | iface (t : TypeId) (v v' : Value) (h : VRen m σ v v') : VRen m σ (.iface t v) (.iface t v')
  | agg (xs ys : Array Value) (hs : xs.size = ys.size) (h : ∀ (i : Nat) (h1 : i < xs.size) (h2 : i < ys.size), VRen m σ xs[i] ys[i]) : VRen m σ (.agg xs) (.agg ys)
  | tuple (xs ys : Array Value) (hs : xs.size = ys.size) (h : ∀ (i : Nat) (h1 : i < xs.size) (h2 : i < ys.size), VRen m σ xs[i] ys[i]) : VRen m σ (.tuple xs) (.tuple ys)

structure VRens (m : Nat) (σ : Nat → Nat) (xs ys : List Value) : Prop where
  len : xs.length = ys.length
  at_ : ∀ (i : Nat) (h1 : i < xs.length) (h2 : i < ys.length), VRen m σ xs[i] ys[i]
inductive ORen (m : Nat) (σ : Nat → Nat) : AObj → AObj → Prop
  | row (cs cs1 : List Value) (rw : Bool) (h : VRens m σ cs cs1) : ORen m σ (.row cs rw) (.row cs1 rw)
  | iter (s : ByteArray) (p : Nat) : ORen m σ (.iter s p) (.iter s p)

theorem VRen.rel {m : Nat} {σ : Nat → Nat} {ρ : Nat → Option Nat} {sz : Nat → Nat} {v v1 : Value} (h : VRen m σ v v1) : ∀ cv, VRel ρ sz v1 cv → VRel (fun i => if i < m then ρ (σ i) else none) sz v cv := by
  induction h with
  | flat v hf => intro cv hv; rw [flat_eq hv hf]; exact flatV_rel hf
  | junk v => intro cv _; exact .junk _
  | ptr b o hb => intro cv hv; cases hv with | ptr _ _ b' h => exact .ptr _ _ _ (by simp [hb, h])
  | slice b o k e hb => intro cv hv; cases hv with
    | slice _ _ _ _ b' c h1 h2 h3 => exact .slice _ _ _ _ _ _ (by simp [hb, h1]) h2 h3
    | sliceLost _ _ _ _ h => cases h
    | sliceFull _ _ _ h => cases h
  | sliceLost a a' e e' h h' => intro cv hv; cases hv with
    | slice => cases h'
    | sliceLost _ _ _ _ _ => exact .sliceLost _ _ _ _ h
    | sliceFull _ _ _ h2 => rw [h'] at h2; cases h2
  | sliceFull a a' e e' h h' => intro cv hv; cases hv with
    | slice => cases h'
    | sliceLost _ _ _ _ h2 => rw [h'] at h2; cases h2
    | sliceFull _ _ _ _ => exact .sliceFull _ _ _ h
  | map b hb => intro cv hv; cases hv with | map _ b' h => exact .map _ _ (by simp [hb, h])
  | iface t v v' h ih => intro cv hv; cases hv with | iface _ _ cv' h => exact .iface _ _ _ (ih _ h)
  | agg xs ys hs h ih =>
    intro cv hv
    cases hv with
    | agg _ zs hs' h' => exact .agg _ _ (hs.trans hs') fun i h1 h2 => ih i h1 (by omega) _ (h' i (by omega) h2)
  | tuple xs ys hs h ih =>
    intro cv hv
    cases hv with
    | tuple _ zs hs' h' => exact .tuple _ _ (hs.trans hs') fun i h1 h2 => ih i h1 (by omega) _ (h' i (by omega) h2)
theorem VRens.rel {m : Nat} {σ : Nat → Nat} {ρ : Nat → Option Nat} {sz : Nat → Nat} {xs ys cs : List Value} (h : VRens m σ xs ys) (h' : VRs ρ sz ys cs) : VRs (fun i => if i < m then ρ (σ i) else none) sz xs cs :=
  ⟨h.len.trans h'.len, fun i h1 h2 => (h.at_ i h1 (by rw [← h.len]; exact h1)).rel _ (h'.at_ i (by rw [← h.len]; exact h1) h2)⟩
theorem ORen.rel {m : Nat} {σ : Nat → Nat} {ρ : Nat → Option Nat} {sz : Nat → Nat} {o o1 : AObj} {co : Obj} (h : ORen m σ o o1) (h' : ORel ρ sz o1 co) : ORel (fun i => if i < m then ρ (σ i) else none) sz o co := by
  cases h with
  | row cs cs1 rw hr =>
    cases h' with
    | row _ _ c t fr hrw hl hv => exact .row _ _ _ _ _ hrw (by rw [hr.len]; exact hl) (by rw [hr.len]; exact hr.rel hv)
  | iter s p => cases h'; exact .iter s p

/-- **What a function's end is worth to its caller**: 'v1' and 'g1' of the end are 'v' and 'g', numbers given anew, and what nobody asks for any more left out. -/
def Weak (n : Nat) (g0 : AMem) (v1 : Value) (g1 : AMem) (v : Value) (g : AMem) (n' : Nat) : Prop :=
  ∃ σ : Nat → Nat, n ≤ n' ∧ (∀ i, i < n → σ i = i) ∧ (∀ i, n ≤ i → i < n' → n ≤ σ i) ∧ (∀ i j, i < n' → j < n' → σ i = σ j → i = j) ∧ VRen n' σ v v1 ∧
    (∀ i o, g i = some o → i < n' ∧ ((i < n ∧ g0 i = some o ∧ g1 i = some o) ∨ ∃ o1, g1 (σ i) = some o1 ∧ ORen n' σ o o1)) ∧ (∀ i, i < n → g0 i = none → g i = none)

/-! ### Results -/
def aRes (P : Program) (g : AMem) (T : Regs) : ResultVar → Option Value
  | .tmp t => some (T t)
  | .cell a t => aLoad P g t (T a)
def aResults (P : Program) (g : AMem) (T : Regs) (rs : List ResultVar) : Option Value := match rs with
  | [] => some (.tuple #[])
  | [r] => aRes P g T r
  | r :: s :: rest => ((r :: s :: rest).mapM (aRes P g T)).map fun vs => .tuple vs.toArray

def resOf (tmps : Array Value) : ResultVar → Sem Value
  | .tmp t => pure (tmps.getD t undef)
  | .cell a t => do loadVar t (← asAddr (tmps.getD a undef))
theorem results_eq (fn : Func) (tmps : Array Value) : results fn tmps = (do let vs ← fn.results.mapM (resOf tmps); pure (if h : vs.size = 1 then vs[0] else .tuple vs)) := by
  unfold results
  have : (fun r => match r with | .tmp t => pure (tmps.getD t undef) | .cell a t => do loadVar t (← asAddr (tmps.getD a undef)) : ResultVar → Sem Value) = resOf tmps := by
    funext r; cases r <;> rfl
  rw [← this]
  rfl
theorem aRes_sound {X : Ctx} {T : Regs} {g : AMem} {n : Nat} {ρ : Nat → Option Nat} {a : Act} {w : World} (h : Cfg X T g n ρ a w) {r : ResultVar} {v : Value} (hr : aRes X.P g T r = some v) :
    ∃ cv, (resOf a.tmps r).run X.P w = .ok cv w ∧ VRel ρ (szOf w) v cv := by
  cases r with
  | tmp t => cases hr; exact ⟨_, rfl, h.regs t⟩
  | cell x t =>
    simp only [aRes] at hr
    have hx := h.regs x
    obtain ⟨cv, h1, h2⟩ := aLoad_sound h.rep hx hr
    refine ⟨cv, ?_, h2⟩
    unfold aLoad at hr
    split at hr
    · rename_i b o he
      rw [he] at hx
      cases hcv : a.tmps.getD x undef <;> rw [hcv] at hx <;> cases hx
      rw [hcv] at h1
      simp only [resOf]
      rw [hcv]
      simpa [Instr.loadAt, Instr.sureAddr, asAddr] using h1
    · cases hr
theorem aResults_sound {X : Ctx} {T : Regs} {g : AMem} {n : Nat} {ρ : Nat → Option Nat} {a : Act} {w : World} (h : Cfg X T g n ρ a w) {fn : Func} {v : Value} (hr : aResults X.P g T fn.results.toList = some v) :
    ∃ cv, (results fn a.tmps).run X.P w = .ok cv w ∧ VRel ρ (szOf w) v cv := by
  have key : ∀ (rs : List ResultVar) (vs : List Value), rs.mapM (aRes X.P g T) = some vs →
      ∃ cvs, (rs.mapM (resOf a.tmps)).run X.P w = .ok cvs w ∧ VRs ρ (szOf w) vs cvs := by
    intro rs
    induction rs with
    | nil => intro vs hv; simp at hv; subst hv; exact ⟨[], by simp, .nil _ _⟩
    | cons r rs ih =>
      intro vs hv
      simp only [List.mapM_cons, Option.bind_eq_bind, Option.bind_eq_some_iff, Option.pure_def, Option.some.injEq] at hv
      obtain ⟨u, hu, us, hus, rfl⟩ := hv
      obtain ⟨cu, h1, h2⟩ := aRes_sound h hu
      obtain ⟨cus, h3, h4⟩ := ih us hus
      exact ⟨cu :: cus, by simp only [List.mapM_cons, Sem.run_bind, h1, Result.andThen_ok, h3, Sem.run_pure], .cons h2 h4⟩
  have hres : ∀ vs, fn.results.toList.mapM (aRes X.P g T) = some vs → ∃ cvs : List Value, (results fn a.tmps).run X.P w = .ok (if h : cvs.toArray.size = 1 then cvs.toArray[0] else .tuple cvs.toArray) w ∧ VRs ρ (szOf w) vs cvs := fun vs hv => by
    obtain ⟨cvs, h1, h2⟩ := key _ _ hv
    refine ⟨cvs, ?_, h2⟩
    rw [results_eq, Array.mapM_eq_mapM_toList]
    simp only [Sem.run_bind, Sem.run_map, h1, Result.andThen_ok, Sem.run_pure]
  unfold aResults at hr
  split at hr
  · rename_i he
    cases hr
    obtain ⟨cvs, h1, h2⟩ := hres [] (by rw [he]; rfl)
    have : cvs = [] := List.eq_nil_of_length_eq_zero h2.len.symm
    subst this
    exact ⟨_, h1, pureV_rel rfl⟩
  · rename_i r he
    obtain ⟨cvs, h1, h2⟩ := hres [v] (by rw [he]; simp [hr])
    match cvs, h2 with
    | [cv], h2 => exact ⟨_, h1, h2.at_ 0 (by simp) (by simp)⟩
    | [], h2 => have := h2.len; simp at this
    | _ :: _ :: _, h2 => have := h2.len; simp at this
  · rename_i r s rest he
    simp only [Option.map_eq_some_iff] at hr
    obtain ⟨vs, hv, rfl⟩ := hr
    obtain ⟨cvs, h1, h2⟩ := hres vs (by rw [he]; exact hv)
    have hl : vs.length = rest.length + 2 := by
      have : ∀ (rs : List ResultVar) (vs : List Value), rs.mapM (aRes X.P g T) = some vs → vs.length = rs.length := by
        intro rs
        induction rs with
        | nil => intro vs hv; simp at hv; subst hv; rfl
        | cons r rs ih =>
          intro vs hv
          simp only [List.mapM_cons, Option.bind_eq_bind, Option.bind_eq_some_iff, Option.pure_def, Option.some.injEq] at hv
          obtain ⟨u, hu, us, hus, rfl⟩ := hv
          simp [ih us hus]
      have := this _ _ hv
      simpa using this
    have hne : ¬ cvs.toArray.size = 1 := by have := h2.len; simp; omega
    rw [dif_neg hne] at h1
    exact ⟨_, h1, .tuple' (by simpa using h2)⟩

/-- What was told by 'ρ' is told by it still. -/
theorem VRel.back {ρ ρ' : Nat → Option Nat} {sz sz' : Nat → Nat} (hρ : ∀ i b, ρ i = some b → ρ' i = some b) {x cx : Value} (h : VRel ρ sz x cx) : ∀ cy, VRel ρ' sz' x cy → VRel ρ sz' x cy := by
  induction h with
  | junk cv => intro cy _; exact .junk _
  | ptr b o b' h => intro cy hy; cases hy with | ptr _ _ b'' h2 => rw [hρ _ _ h] at h2; cases h2; exact .ptr _ _ _ h
  | slice b o n e b' c h hn hc => intro cy hy; cases hy with
    | slice _ _ _ _ b'' c' h2 h3 h4 => rw [hρ _ _ h] at h2; cases h2; exact .slice _ _ _ _ _ _ h h3 h4
    | sliceLost _ a' _ c' h2 => cases h2
    | sliceFull _ a' _ h2 => cases h2
  | sliceLost a a' e c h => intro cy hy; cases hy with
    | slice => cases h
    | sliceLost _ a'' _ c' h2 => exact .sliceLost _ _ _ _ h2
    | sliceFull _ a'' _ h2 => exact .sliceFull _ _ _ h2
  | sliceFull a a' e h => intro cy hy; cases hy with
    | slice => cases h
    | sliceLost _ a'' _ c' h2 => exact .sliceLost _ _ _ _ h2
    | sliceFull _ a'' _ h2 => exact .sliceFull _ _ _ h2
  | map b b' h => intro cy hy; cases hy with | map _ b'' h2 => rw [hρ _ _ h] at h2; cases h2; exact .map _ _ h
  | func fn xs ys xs' ys' hx hy h h' ih ih' =>
    intro cy hcy
    cases hcy with
    | func _ _ _ xs'' ys'' h1 h2 h3 h4 => exact .func _ _ _ _ _ h1 h2 (fun i a b => ih i a (by omega) _ (h3 i a b)) (fun i a b => ih' i a (by omega) _ (h4 i a b))
  | iface t v v' h ih => intro cy hy; cases hy with | iface _ _ v'' h2 => exact .iface _ _ _ (ih _ h2)
  | agg xs ys hs h ih => intro cy hy; cases hy with | agg _ zs h1 h2 => exact .agg _ _ h1 fun i a b => ih i a (by omega) _ (h2 i a b)
  | tuple xs ys hs h ih => intro cy hy; cases hy with | tuple _ zs h1 h2 => exact .tuple _ _ h1 fun i a b => ih i a (by omega) _ (h2 i a b)
  | _ => intro cy hy; cases hy; constructor
theorem ORel.back {ρ ρ' : Nat → Option Nat} {sz sz' : Nat → Nat} (hρ : ∀ i b, ρ i = some b → ρ' i = some b) {o : AObj} {co co' : Obj} (h : ORel ρ sz o co) (h' : ORel ρ' sz' o co') : ORel ρ sz' o co' := by
  cases h with
  | row cs rw c t fr hrw hl hv =>
    cases h' with
    | row _ _ c' t' fr' hrw' hl' hv' =>
      refine .row _ _ _ _ _ hrw' hl' ⟨hv'.len, fun i h1 h2 => ?_⟩
      exact (hv.at_ i h1 (by rw [← hv.len]; exact h1)).back hρ _ (hv'.at_ i h1 h2)
  | map es ces clock hl hv =>
    cases h' with
    | map _ ces' clock' hl' hv' =>
      refine .map _ _ _ hl' fun i h1 h2 => ?_
      exact ⟨(hv i h1 (by omega)).1.back hρ _ (hv' i h1 h2).1, (hv i h1 (by omega)).2.back hρ _ (hv' i h1 h2).2⟩
  | iter s p => cases h'; exact .iter s p

theorem weak_trans {P : Program} {nt : Nat} {T : Regs} {ρ : Nat → Option Nat} {g : AMem} {n : Nat} {touch : Nat → Prop} {w : World} {g1 : AMem} {n1 : Nat} {ρ1 : Nat → Option Nat} {a : Act} {w' : World} {v1 cv v : Value} {g' : AMem} {n' : Nat}
    (hbase : BaseOk ρ n touch w) (hrep : GRep ρ g n w) (hc1 : Cfg ⟨P, nt, ρ, g, n, touch, w, hbase⟩ T g1 n1 ρ1 a w') (hr2 : VRel ρ1 (szOf w') v1 cv) (hweak : Weak n g v1 g1 v g' n') : ∃ ρ', Trans touch ρ g n w v g' n' cv w' ρ' := by
  obtain ⟨σ, w1, w2, w3, w4, w5, w6, w7⟩ := hweak
  have hext : ∀ i b, ρ i = some b → ρ1 i = some b := fun i b hi => by rw [hc1.ext i (hrep.lt hi)]; exact hi
  have hext' : ∀ i b, ρ i = some b → (fun i => if i < n' then ρ1 (σ i) else none) i = some b := fun i b hi => by
    have hlt := hrep.lt hi
    simp only [show i < n' by omega, if_true]
    rw [w2 i hlt]; exact hext i b hi
  have at_ : ∀ i o, g' i = some o → i < n' ∧ ∃ o1, g1 (σ i) = some o1 := fun i o hi => by
    obtain ⟨hlt, h | ⟨o1, h1, _⟩⟩ := w6 i o hi
    · exact ⟨hlt, o, by rw [w2 i h.1]; exact h.2.2⟩
    · exact ⟨hlt, o1, h1⟩
  refine ⟨fun i => if i < n' then ρ1 (σ i) else none, w5.rel _ hr2, ⟨?_, ?_, fun i hi => if_neg (by omega), ?_⟩, w1, ?_, hc1.frame, ?_, w7⟩
  · intro i o hi
    obtain ⟨hlt, h | ⟨o1, ho1, hren⟩⟩ := w6 i o hi
    · obtain ⟨hn, hg0, hg1⟩ := h
      obtain ⟨b, co, h1, h2, h3⟩ := hc1.rep.obj _ _ hg1
      obtain ⟨b0, co0, e1, e2, e3⟩ := hrep.obj _ _ hg0
      exact ⟨b, co, by simp [hlt, w2 i hn, h1], h2, (e3.back hext h3).mono hext' fun _ => Nat.le_refl _⟩
    · obtain ⟨b, co, h1, h2, h3⟩ := hc1.rep.obj _ _ ho1
      exact ⟨b, co, by simp [hlt, h1], h2, hren.rel h3⟩
  · intro i j b hi hj ei ej
    cases hgi : g' i with
    | none => exact absurd hgi hi
    | some oi =>
      cases hgj : g' j with
      | none => exact absurd hgj hj
      | some oj =>
        obtain ⟨li, o1, e1⟩ := at_ i oi hgi
        obtain ⟨lj, o2, e2⟩ := at_ j oj hgj
        simp only [li, lj, if_true] at ei ej
        exact w4 i j li lj (hc1.rep.inj _ _ b (by rw [e1]; simp) (by rw [e2]; simp) ei ej)
  · intro i b hi
    by_cases hl : i < n'
    · simp only [hl, if_true] at hi; exact hc1.rep.old _ _ hi
    · simp only [hl, if_false] at hi; cases hi
  · intro i hi
    have hlt : i < n' := Nat.lt_of_lt_of_le hi w1
    simp only [hlt, if_true]
    rw [w2 i hi]
    exact hc1.ext i hi
  · intro j b hj hb
    by_cases hl : j < n'
    · simp only [hl, if_true] at hb
      exact hc1.fresh (σ j) b (w3 j hj hl) hb
    · simp only [hl, if_false] at hb; cases hb

/-! ### The commonest ends -/
/-- The heap is as it was (but for what is left out), the value holds no address. -/
theorem pureV_ren {m : Nat} {σ : Nat → Nat} {v : Value} (h : pureV v = true) (hn : ∀ fn xs ys, v ≠ .func fn xs ys) : VRen m σ v v := by
  unfold pureV at h
  split at h
  · rw [List.all_eq_true] at h
    exact .agg _ _ rfl fun i h1 h2 => .flat _ (h _ (by simp))
  · rw [List.all_eq_true] at h
    exact .tuple _ _ rfl fun i h1 h2 => .flat _ (h _ (by simp))
  · exact absurd rfl (hn _ _ _)
  · exact .flat _ h
theorem flats_ren {m : Nat} {σ : Nat → Nat} {cs : List Value} (h : cs.all flatV = true) : VRens m σ cs cs :=
  ⟨rfl, fun i h1 h2 => .flat _ (List.all_eq_true.1 h _ (List.getElem_mem h1))⟩
end Go.Proofs.YtkcahnefekkfaaaAbs

namespace Go.Proofs.YtkcahnefekkfaaaAbs
open Go Go.RowKit
variable [Base]

/-- Numbers below m alone. -/
def below (ρ : Nat → Option Nat) (m : Nat) : Nat → Option Nat := fun i => if i < m then ρ i else none
theorem below_le {ρ : Nat → Option Nat} {m m' : Nat} (h : m ≤ m') : ∀ i b, below ρ m i = some b → below ρ m' i = some b := fun i b hi => by
  unfold below at *
  split at hi
  · rw [if_pos (by omega)]; exact hi
  · cases hi
theorem below_sub {ρ : Nat → Option Nat} {m : Nat} : ∀ i b, below ρ m i = some b → ρ i = some b := fun i b hi => by
  unfold below at hi
  split at hi
  · exact hi
  · cases hi
/-- A part of a heap. -/
noncomputable def res (F : Nat → Prop) (g : AMem) : AMem := fun i => @ite _ (F i) (Classical.propDecidable _) (g i) none
theorem res_in {F : Nat → Prop} {g : AMem} {i : Nat} (h : F i) : res F g i = g i := if_pos h
theorem res_out {F : Nat → Prop} {g : AMem} {i : Nat} (h : ¬ F i) : res F g i = none := if_neg h
theorem res_some {F : Nat → Prop} {g : AMem} {i : Nat} {o : AObj} (h : res F g i = some o) : F i ∧ g i = some o := by
  by_cases hf : F i
  · rw [res_in hf] at h; exact ⟨hf, h⟩
  · rw [res_out hf] at h; cases h

/-- What is known of operation 'i': what it asks (F), what it writes (W). -/
structure LRec (P : Program) (may : Nat → Prop) (ops : Array Oper) (i : Nat) (s : St) (v : Value) (s' : St) (F W : Nat → Prop) : Prop where
  op : ∃ o b, ops[i]? = some o ∧ aWanted ops s.1 o = some b ∧ s'.1 = upd s.1 o.dst v ∧
    (b = false → v = undef ∧ s'.2 = s.2 ∧ ∀ x, ¬ W x) ∧
    (b = true → ∃ h', Step P (fun x => x < s.2.2 → W x) o s.1 (res F s.2.1) s.2.2 v h' s'.2.2 ∧ ∀ x, (W x ∨ s.2.2 ≤ x) → s'.2.1 x = h' x)
  sub : ∀ x, W x → F x
  lt : ∀ x, F x → x < s.2.2
  le : s.2.2 ≤ s'.2.2
  may : ∀ x, W x → may x
  same : ∀ x, ¬ W x → x < s.2.2 → s'.2.1 x = s.2.1 x
  dom : ∀ x, s'.2.2 ≤ x → s'.2.1 x = none
  live : ∀ x, W x → s.2.1 x ≠ none

section
variable {P : Program} {ops : Array Oper} {st : Nat → St} {vs : Nat → Value} {F W : Nat → Nat → Prop}
/-- Written or made by operation 'i'. -/
def turns (st : Nat → St) (W : Nat → Nat → Prop) (i b : Nat) : Prop := W i b ∨ ((st i).2.2 ≤ b ∧ b < (st (i + 1)).2.2)
open Classical in
/-- The last of D below k that has turned the block, and one more; nought, if there is none. -/
noncomputable def lastT (st : Nat → St) (W : Nat → Nat → Prop) (D : Nat → Prop) (b : Nat) : Nat → Nat
  | 0 => 0
  | k + 1 => if D k ∧ turns st W k b then k + 1 else lastT st W D b k
theorem lastT_yes {D : Nat → Prop} {b k : Nat} (h : D k ∧ turns st W k b) : lastT st W D b (k + 1) = k + 1 := by rw [lastT, if_pos h]
theorem lastT_not {D : Nat → Prop} {b k : Nat} (h : ¬ (D k ∧ turns st W k b)) : lastT st W D b (k + 1) = lastT st W D b k := by rw [lastT, if_neg h]
theorem lastT_le (D : Nat → Prop) (b : Nat) : ∀ k, lastT st W D b k ≤ k
  | 0 => Nat.le_refl _
  | k + 1 => by
    unfold lastT
    split
    · exact Nat.le_refl _
    · exact Nat.le_succ_of_le (lastT_le D b k)
theorem lastT_congr {D D' : Nat → Prop} {b : Nat} : ∀ k, (∀ j, j < k → turns st W j b → (D j ↔ D' j)) → lastT st W D b k = lastT st W D' b k
  | 0, _ => rfl
  | k + 1, h => by
    have ih := lastT_congr k fun j hj => h j (by omega)
    unfold lastT
    by_cases ht : turns st W k b
    · have := h k (by omega) ht
      by_cases hd : D k
      · rw [if_pos ⟨hd, ht⟩, if_pos ⟨this.1 hd, ht⟩]
      · rw [if_neg (fun x => hd x.1), if_neg (fun x => hd (this.2 x.1)), ih]
    · rw [if_neg (fun x => ht x.2), if_neg (fun x => ht x.2), ih]
/-- A block that nobody turns from k on. -/
theorem lastT_stop {D : Nat → Prop} {b : Nat} {k : Nat} : ∀ m, k ≤ m → (∀ j, k ≤ j → j < m → D j → ¬ turns st W j b) → lastT st W D b m = lastT st W D b k
  | 0, hk, _ => by rw [Nat.le_zero.1 hk]
  | m + 1, hk, h => by
    by_cases e : k = m + 1
    · rw [e]
    · have ih := lastT_stop (D := D) (b := b) (k := k) m (by omega) fun j h1 h2 => h j h1 (by omega)
      rw [lastT_not (fun x => h m (by omega) (by omega) x.1 x.2), ih]
/-- The heap when those of D have been carried out. -/
noncomputable def gD (st : Nat → St) (W : Nat → Nat → Prop) (D : Nat → Prop) (k : Nat) : AMem := fun b => (st (lastT st W D b k)).2.1 b
theorem lastT_add {D : Nat → Prop} {i b : Nat} (hD : ∀ j, i < j → D j → ¬ turns st W j b) (ht : turns st W i b) : ∀ k, i < k → lastT st W (fun j => D j ∨ j = i) b k = i + 1
  | 0, h => by omega
  | k + 1, h => by
    by_cases e : k = i
    · subst e; rw [lastT_yes ⟨.inr rfl, ht⟩]
    · rw [lastT_not (fun x => (x.1.elim (fun hd => hD k (by omega) hd x.2) e)), lastT_add hD ht k (by omega)]
theorem lastT_other {D : Nat → Prop} {i b : Nat} (ht : ¬ turns st W i b) (k : Nat) : lastT st W (fun j => D j ∨ j = i) b k = lastT st W D b k :=
  lastT_congr k fun j _ hj => ⟨fun h => h.resolve_right fun e => (by subst e; exact ht hj), Or.inl⟩

variable {may : Nat → Prop}
/-- What the walk says of a region. -/
structure LRegion (P : Program) (may : Nat → Prop) (ops : Array Oper) (st : Nat → St) (vs : Nat → Value) (F W : Nat → Nat → Prop) : Prop where
  each : ∀ i, i < ops.size → LRec P may ops i (st i) (vs i) (st (i + 1)) (F i) (W i)
  apart : ∀ i j, i < j → j < ops.size → pre ops j i = false → (∀ b, turns st W i b → ¬ F j b) ∧ (∀ b, F i b → ¬ W j b)

theorem LRegion.mono (h : LRegion P may ops st vs F W) {i j : Nat} (hij : i ≤ j) (hj : j ≤ ops.size) : (st i).2.2 ≤ (st j).2.2 := by
  induction j with
  | zero => rw [Nat.le_zero.1 hij]; exact Nat.le_refl _
  | succ j ih =>
    by_cases e : i = j + 1
    · rw [e]; exact Nat.le_refl _
    · exact Nat.le_trans (ih (by omega) (by omega)) (h.each j (by omega)).le
/-- The heap ahead of operation i, by those that stand ahead of it. -/
theorem LRegion.heap (h : LRegion P may ops st vs F W) (hd0 : ∀ x, (st 0).2.2 ≤ x → (st 0).2.1 x = none) (b : Nat) : ∀ i, i ≤ ops.size → (st i).2.1 b = (st (lastT st W (fun j => j < i) b i)).2.1 b
  | 0, _ => rfl
  | i + 1, hi => by
    have hr := h.each i (by omega)
    by_cases ht : turns st W i b
    · rw [lastT_yes (D := fun j => j < i + 1) (k := i) ⟨Nat.lt_succ_self _, ht⟩]
    · have e1 : lastT st W (fun j => j < i + 1) b (i + 1) = lastT st W (fun j => j < i) b i := by
        rw [lastT_not (fun x => ht x.2)]
        exact lastT_congr i fun j hj _ => ⟨fun _ => hj, fun _ => by omega⟩
      rw [e1, ← LRegion.heap h hd0 b i (by omega)]
      by_cases hlt : b < (st i).2.2
      · exact hr.same b (fun x => ht (.inl x)) hlt
      · have h1 : (st (i + 1)).2.2 ≤ b := by
          apply Classical.byContradiction; intro h2
          exact ht (.inr ⟨by omega, by omega⟩)
        rw [hr.dom b h1]
        cases i with
        | zero => rw [hd0 b (by omega)]
        | succ i => rw [(h.each i (by omega)).dom b (by omega)]

/-- What holds when those of D have been carried out: registers and blocks are related by the numbers that were there when they were made. -/
structure LInv (X : Ctx) (ops : Array Oper) (st : Nat → St) (vs : Nat → Value) (W : Nat → Nat → Prop) (D : Nat → Prop) (ρ : Nat → Option Nat) (a : Act) (w : World) : Prop where
  size : a.tmps.size = X.nt
  here : ∀ j o t, ops[j]? = some o → D j → o.dst = some t → VRel (below ρ (st (j + 1)).2.2) (szOf w) (vs j) (a.tmps.getD t undef)
  old : ∀ t, (∀ j o, ops[j]? = some o → D j → o.dst ≠ some t) → VRel (below ρ (st 0).2.2) (szOf w) ((st 0).1 t) (a.tmps.getD t undef)
  dom : ∀ i b, ρ i = some b → b < w.heap.size ∧ (i < (st 0).2.2 ∨ ∃ j, j < ops.size ∧ D j ∧ (st j).2.2 ≤ i ∧ i < (st (j + 1)).2.2)
  obj : ∀ b o, gD st W D ops.size b = some o → ∃ mb co, ρ b = some mb ∧ w.heap[mb]? = some co ∧ ORel (below ρ (st (lastT st W D b ops.size)).2.2) (szOf w) o co
  inj : ∀ i j b, gD st W D ops.size i ≠ none → gD st W D ops.size j ≠ none → ρ i = some b → ρ j = some b → i = j
  le : X.n0 ≤ (st 0).2.2
  ext : ∀ i, i < X.n0 → ρ i = X.ρ0 i
  frame : Frame0 (fun b => ∃ i, i < X.n0 ∧ X.touch i ∧ X.ρ0 i = some b) X.w0 w
  fresh : ∀ j b, X.n0 ≤ j → ρ j = some b → X.w0.heap.size ≤ b ∨ ∃ i, i < X.n0 ∧ X.touch i ∧ X.ρ0 i = some b
  keep : ∀ i, i < X.n0 → X.g0 i = none → gD st W D ops.size i = none
  defers : a.defers = []

section
variable {X : Ctx} {D : Nat → Prop} {ρ : Nat → Option Nat} {a : Act} {w : World} {i : Nat} {o : Oper}
/-- The blocks that operation i asks for are as they are ahead of it in the text. -/
theorem LRegion.at_ (hR : LRegion P may ops st vs F W) (hd0 : ∀ x, (st 0).2.2 ≤ x → (st 0).2.1 x = none) (hi : i < ops.size) (hDlt : ∀ j, D j → j < ops.size) (hnot : ¬ D i) (hpre : ∀ j, pre ops i j = true → D j) (hpost : ∀ j, D j → pre ops j i = true → False) {b : Nat} (hb : F i b) :
    lastT st W D b ops.size ≤ i ∧ gD st W D ops.size b = (st i).2.1 b := by
  have hbm := (hR.each i hi).lt b hb
  have e1 : lastT st W D b ops.size = lastT st W D b i := lastT_stop ops.size (by omega) fun j h1 h2 hj ht => by
    have hne : j ≠ i := fun e => hnot (e ▸ hj)
    have hp : pre ops j i = false := by
      cases hp : pre ops j i
      · rfl
      · exact (hpost j hj hp).elim
    rcases ht with hw | ⟨hn, _⟩
    · exact (hR.apart i j (by omega) h2 hp).2 b hb hw
    · have := hR.mono (i := i) (j := j) h1 (by omega)
      omega
  have e2 : lastT st W D b i = lastT st W (fun j => j < i) b i := lastT_congr i fun j hj ht => ⟨fun _ => hj, fun _ => by
    cases hp : pre ops i j
    · exact absurd hb ((hR.apart j i hj hi hp).1 b ht)
    · exact hpre j hp⟩
  refine ⟨by rw [e1]; exact lastT_le D b i, ?_⟩
  show (st (lastT st W D b ops.size)).2.1 b = _
  rw [e1, e2, ← hR.heap hd0 b i (by omega)]
theorem pre_lt (hok : drawOk ops = true) {i j : Nat} {o : Oper} (ho : ops[i]? = some o) (h : pre ops i j = true) : j < i :=
  pre_closed (D := fun m => m < i) (drawOk_lt hok) (fun m om hom hmj e' he' hb => Nat.lt_trans (drawOk_lt hok m om hom e' he' hb) hmj) i o ho (drawOk_lt hok i o ho) j h
/-- The registers ahead of operation i, by those that stand ahead of it. -/
theorem LRegion.regs (hR : LRegion P may ops st vs F W) (hok : drawOk ops = true) : ∀ i, i ≤ ops.size → (st i).1 = TD ops (st 0).1 vs (fun j => j < i)
  | 0, _ => by funext t; rw [TD_not fun j o _ h => absurd h (Nat.not_lt_zero _)]
  | i + 1, hi => by
    obtain ⟨o, b, h1, h2, h5, h3, h4⟩ := (hR.each i (by omega)).op
    rw [h5, LRegion.regs hR hok i (by omega), ← TD_add (D := fun j => j < i) hok h1 (Nat.lt_irrefl _)]
    congr 1
    funext j
    exact propext ⟨fun h => by rcases h with h | h <;> omega, fun h => by omega⟩
/-- What operation i looks at, and nothing else. -/
noncomputable def lookT (ops : Array Oper) (o : Oper) (T : Regs) : Regs := fun t => @ite _ (t ∈ o.looksAt ops) (Classical.propDecidable _) (T t) junk
theorem LInv.base {t : Nat → Prop} {m : Nat} (inv : LInv X ops st vs W D ρ a w) (hm : ∀ x, t x → X.may x) : BaseOk (below ρ m) m t w := by
  have out : ∀ b, (∃ i, i < X.n0 ∧ X.touch i ∧ X.ρ0 i = some b) → Base.K ≤ b := fun b ⟨i, h1, h2, h3⟩ => X.ok.out i b h1 h2 h3
  refine ⟨⟨fun b hb => ?_, Nat.le_trans X.ok.base.2 inv.frame.size⟩, fun i b hi hti hb => ?_⟩
  · rw [inv.frame.block b (Nat.lt_of_lt_of_le hb X.ok.base.2) fun hx => by have := out b hx; omega]
    exact X.ok.base.1 b hb
  · have hb := below_sub i b hb
    by_cases hi0 : i < X.n0
    · exact X.ok.out i b hi0 (hm i hti hi0) (by rw [← inv.ext i hi0]; exact hb)
    · rcases inv.fresh i b (by omega) hb with h1 | h1
      · exact Nat.le_trans X.ok.base.2 h1
      · exact out b h1
/-- The state as operation i sees it. -/
theorem LInv.sees (inv : LInv X ops st vs W D ρ a w) (hb0 : BaseOk (below ρ (st i).2.2) (st i).2.2 (W i) w) (hR : LRegion P may ops st vs F W) (hok : drawOk ops = true) (hd0 : ∀ x, (st 0).2.2 ≤ x → (st 0).2.1 x = none) (ho : ops[i]? = some o) (hDlt : ∀ j, D j → j < ops.size) (hnot : ¬ D i) (hpre : ∀ j, pre ops i j = true → D j) (hpost : ∀ j, D j → pre ops j i = true → False) :
    Cfg ⟨X.P, X.nt, below ρ (st i).2.2, res (F i) (st i).2.1, (st i).2.2, W i, w, hb0⟩ (lookT ops o (st i).1) (res (F i) (st i).2.1) (st i).2.2 (below ρ (st i).2.2) a w := by
  have hi := (Array.getElem?_eq_some_iff.1 ho).1
  refine ⟨inv.size, fun t => ?_, ⟨fun b ob hb => ?_, fun x y b hx hy h1 h2 => ?_, fun x hx => if_neg (by omega), fun x b hx => (inv.dom x b (below_sub x b hx)).1⟩, Nat.le_refl _, fun _ _ => rfl, Frame0.refl _ _, fun j b hj hb => ?_, fun _ _ h => h, inv.defers⟩
  · unfold lookT
    by_cases ht : t ∈ o.looksAt ops
    · rw [if_pos ht, hR.regs hok i (by omega)]
      by_cases hex : ∃ j oj, ops[j]? = some oj ∧ D j ∧ oj.dst = some t
      · obtain ⟨j, oj, h1, h2, h3⟩ := hex
        have hne : i ≠ j := fun e => hnot (e ▸ h2)
        have hp : pre ops i j = true := by
          rcases (drawOk_dst hok h1 ho hne h3).2 ht with hp | hp
          · exact (hpost j h2 hp).elim
          · exact hp
        have hji := pre_lt hok ho hp
        rw [TD_at hok (D := fun j => j < i) h1 hji h3]
        exact (inv.here j oj t h1 h2 h3).mono (below_le (hR.mono (by omega) (by omega))) (fun _ => Nat.le_refl _)
      · rw [TD_not fun j oj h1 hji h3 => ?_]
        · exact (inv.old t fun j oj h1 h2 h3 => hex ⟨j, oj, h1, h2, h3⟩).mono (below_le (hR.mono (by omega) (by omega))) (fun _ => Nat.le_refl _)
        · have hne : i ≠ j := fun e => by omega
          rcases (drawOk_dst hok h1 ho hne h3).2 ht with hp | hp
          · have := pre_lt hok h1 hp; omega
          · exact hex ⟨j, oj, h1, hpre j hp, h3⟩
    · rw [if_neg ht]; exact .junk _
  · obtain ⟨hf, hg⟩ := res_some hb
    obtain ⟨hl, he⟩ := hR.at_ hd0 hi hDlt hnot hpre hpost hf
    rw [← he] at hg
    obtain ⟨mb, co, h1, h2, h3⟩ := inv.obj b ob hg
    have hlt := (hR.each i hi).lt b hf
    exact ⟨mb, co, by rw [below, if_pos hlt]; exact h1, h2, h3.mono (below_le (hR.mono hl (by omega))) (fun _ => Nat.le_refl _)⟩
  · have key : ∀ x, res (F i) (st i).2.1 x ≠ none → gD st W D ops.size x ≠ none := fun x hx => by
      cases hr : res (F i) (st i).2.1 x with
      | none => exact absurd hr hx
      | some ob =>
        obtain ⟨hf, hg⟩ := res_some hr
        rw [(hR.at_ hd0 hi hDlt hnot hpre hpost hf).2, hg]; simp
    exact inv.inj x y b (key x hx) (key y hy) (below_sub x b h1) (below_sub y b h2)
  · simp only [below] at hb
    rw [if_neg (by simpa using hj)] at hb; cases hb
/-- Behind operation i. -/
theorem LInv.next (inv : LInv X ops st vs W D ρ a w) (hR : LRegion P X.may ops st vs F W) (hok : drawOk ops = true) (hd0 : ∀ x, (st 0).2.2 ≤ x → (st 0).2.1 x = none) (ho : ops[i]? = some o) (hDlt : ∀ j, D j → j < ops.size) (hnot : ¬ D i) (hpre : ∀ j, pre ops i j = true → D j) (hpost : ∀ j, D j → pre ops j i = true → False)
    {T : Regs} {h' : AMem} {cv : Value} {w' : World} {ρ' : Nat → Option Nat} {hb0 : BaseOk (below ρ (st i).2.2) (st i).2.2 (W i) w} (hh : ∀ x, (W i x ∨ (st i).2.2 ≤ x) → (st (i + 1)).2.1 x = h' x) (hdx : ∀ d, o.dst = some d → d < X.nt)
    (hc : Cfg ⟨X.P, X.nt, below ρ (st i).2.2, res (F i) (st i).2.1, (st i).2.2, W i, w, hb0⟩ (upd T o.dst (vs i)) h' (st (i + 1)).2.2 ρ' (a.put o.dst cv) w') :
    LInv X ops st vs W (fun j => D j ∨ j = i) (fun x => if (st i).2.2 ≤ x ∧ x < (st (i + 1)).2.2 then ρ' x else ρ x) (a.put o.dst cv) w' := by
  have hi := (Array.getElem?_eq_some_iff.1 ho).1
  have hr := hR.each i hi
  have hle := hr.le
  have hext : ∀ x, x < (st i).2.2 → ρ' x = ρ x := fun x hx => by
    have := hc.ext x hx
    rw [this]; exact if_pos hx
  have hnone : ∀ x, (st i).2.2 ≤ x → x < (st (i + 1)).2.2 → ρ x = none := fun x h1 h2 => by
    cases hx : ρ x with
    | none => rfl
    | some b =>
      exfalso
      rcases (inv.dom x b hx).2 with h3 | ⟨j, hj, hDj, h3, h4⟩
      · have := hR.mono (i := 0) (j := i) (by omega) (by omega); omega
      · have hne : j ≠ i := fun e => hnot (e ▸ hDj)
        by_cases hji : j < i
        · have := hR.mono (i := j + 1) (j := i) (by omega) (by omega); omega
        · have := hR.mono (i := i + 1) (j := j) (by omega) (by omega); omega
  generalize hρ : (fun x => if (st i).2.2 ≤ x ∧ x < (st (i + 1)).2.2 then ρ' x else ρ x) = ρ2
  have hin : ∀ x, (st i).2.2 ≤ x → x < (st (i + 1)).2.2 → ρ2 x = ρ' x := fun x h1 h2 => by rw [← hρ]; exact if_pos ⟨h1, h2⟩
  have hout : ∀ x, ¬ ((st i).2.2 ≤ x ∧ x < (st (i + 1)).2.2) → ρ2 x = ρ x := fun x h => by rw [← hρ]; exact if_neg h
  have hbelow : below ρ2 (st (i + 1)).2.2 = ρ' := by
    funext x
    unfold below
    by_cases h1 : x < (st (i + 1)).2.2
    · rw [if_pos h1]
      by_cases h2 : (st i).2.2 ≤ x
      · exact hin x h2 h1
      · rw [hout x (fun h => h2 h.1), hext x (by omega)]
    · rw [if_neg h1]; exact (hc.rep.dom x (by omega)).symm
  have hmono : ∀ x b, ρ x = some b → ρ2 x = some b := fun x b hx => by
    by_cases h : (st i).2.2 ≤ x ∧ x < (st (i + 1)).2.2
    · rw [hnone x h.1 h.2] at hx; cases hx
    · rw [hout x h]; exact hx
  have hbm : ∀ k x b, below ρ k x = some b → below ρ2 k x = some b := fun k x b hx => by
    unfold below at hx ⊢
    split at hx
    · rw [if_pos ‹_›]; exact hmono x b hx
    · cases hx
  have hsz := hc.frame.cells
  have hput : ∀ t, o.dst ≠ some t → (a.put o.dst cv).tmps.getD t undef = a.tmps.getD t undef := fun t ht => by
    cases hd : o.dst with
    | none => rfl
    | some d =>
      rw [getD_put a d cv (by rw [inv.size]; exact hdx d hd) t, if_neg (fun e => ht (by rw [hd, e]))]
  have hlast : ∀ b, turns st W i b → lastT st W (fun j => D j ∨ j = i) b ops.size = i + 1 := fun b ht => lastT_add (fun j hij hj htj => by
    have hjs := hDlt j hj
    have hp : pre ops j i = false := by
      cases hp : pre ops j i
      · rfl
      · exact (hpost j hj hp).elim
    have hF := (hR.apart i j hij hjs hp).1 b ht
    rcases htj with hw | ⟨h1, _⟩
    · exact hF ((hR.each j hjs).sub b hw)
    · have hm := hR.mono (i := i + 1) (j := j) (by omega) (by omega)
      rcases ht with hw | ⟨_, h2⟩
      · have := hr.lt b (hr.sub b hw); omega
      · omega) ht ops.size hi
  have hgT : ∀ b, turns st W i b → gD st W (fun j => D j ∨ j = i) ops.size b = h' b := fun b ht => by
    show (st (lastT st W (fun j => D j ∨ j = i) b ops.size)).2.1 b = _
    rw [hlast b ht]
    exact hh b (ht.imp id (fun h => h.1))
  have hgN : ∀ b, ¬ turns st W i b → gD st W (fun j => D j ∨ j = i) ops.size b = gD st W D ops.size b := fun b ht => by
    show (st (lastT st W (fun j => D j ∨ j = i) b ops.size)).2.1 b = _
    rw [lastT_other ht]; rfl
  have hlive : ∀ x, W i x → gD st W D ops.size x ≠ none := fun x hx => by
    rw [(hR.at_ hd0 hi hDlt hnot hpre hpost (hr.sub x hx)).2]; exact hr.live x hx
  have hown : ∀ x, gD st W D ops.size x ≠ none → ∃ b, ρ x = some b := fun x hx => by
    cases hg : gD st W D ops.size x with
    | none => exact absurd hg hx
    | some ob => obtain ⟨mb, co, h1, _⟩ := inv.obj x ob hg; exact ⟨mb, h1⟩
  have hrT : ∀ x, turns st W i x → ρ2 x = ρ' x := fun x hx => by
    by_cases h : (st i).2.2 ≤ x ∧ x < (st (i + 1)).2.2
    · exact hin x h.1 h.2
    · rw [hout x h]
      rcases hx with hw | hn
      · exact (hext x (hr.lt x (hr.sub x hw))).symm
      · exact absurd hn h
  have hrN : ∀ x, ¬ turns st W i x → ρ2 x = ρ x := fun x hx => hout x fun h => hx (.inr h)
  have hold : ∀ b, (∃ x, x < (st i).2.2 ∧ W i x ∧ below ρ (st i).2.2 x = some b) → ∃ x, W i x ∧ ρ x = some b := fun b ⟨x, _, h2, h3⟩ => ⟨x, h2, below_sub x b h3⟩
  have htouch : ∀ b, (∃ x, x < (st i).2.2 ∧ W i x ∧ below ρ (st i).2.2 x = some b) → X.w0.heap.size ≤ b ∨ ∃ i, i < X.n0 ∧ X.touch i ∧ X.ρ0 i = some b := fun b hb => by
    obtain ⟨x, h1, h2⟩ := hold b hb
    by_cases hx : x < X.n0
    · exact .inr ⟨x, hx, hr.may x h1 hx, by rw [← inv.ext x hx]; exact h2⟩
    · exact inv.fresh x b (by omega) h2
  have cross : ∀ x y b, turns st W i x → ¬ turns st W i y → gD st W D ops.size y ≠ none → ρ' x = some b → ρ y = some b → False := fun x y b hx hy hgy h1 h2 => by
    have hby := (inv.dom y b h2).1
    rcases hx with hw | ⟨hn, _⟩
    · rw [hext x (hr.lt x (hr.sub x hw))] at h1
      have := inv.inj x y b (hlive x hw) hgy h1 h2
      exact hy (this ▸ .inl hw)
    · rcases hc.fresh x b hn h1 with h3 | h3
      · have h3 : w.heap.size ≤ b := h3
        omega
      · obtain ⟨x0, h4, h5⟩ := hold b h3
        have := inv.inj x0 y b (hlive x0 h4) hgy h5 h2
        exact hy (this ▸ .inl h4)
  refine ⟨hc.size, fun j oj t h1 h2 h3 => ?_, fun t ht => ?_, fun x b hx => ?_, fun b ob hb => ?_, fun x y b hx hy h1 h2 => ?_, inv.le, fun x hx => ?_, ?_, fun j b hj hb => ?_, fun x hx h0 => ?_, hc.defers⟩
  · by_cases e : j = i
    · subst e
      rw [ho] at h1; cases h1
      rw [hbelow]
      have := hc.regs t
      rw [h3] at this ⊢
      simpa [upd] using this
    · have hD := h2.resolve_right e
      rw [hput t fun hd => (drawOk_dst hok h1 ho (fun e' => e e'.symm) h3).1 hd]
      exact (inv.here j oj t h1 hD h3).mono (hbm _) hsz
  · rw [hput t (ht i o ho (.inr rfl))]
    exact (inv.old t fun j oj h1 h2 => ht j oj h1 (.inl h2)).mono (hbm _) hsz
  · by_cases h : (st i).2.2 ≤ x ∧ x < (st (i + 1)).2.2
    · rw [hin x h.1 h.2] at hx
      exact ⟨hc.rep.old x b hx, .inr ⟨i, hi, .inr rfl, h.1, h.2⟩⟩
    · rw [hout x h] at hx
      obtain ⟨h1, h2⟩ := inv.dom x b hx
      exact ⟨Nat.lt_of_lt_of_le h1 hc.frame.size, h2.imp id fun ⟨j, a1, a2, a3⟩ => ⟨j, a1, .inl a2, a3⟩⟩
  · by_cases ht : turns st W i b
    · rw [hgT b ht] at hb
      obtain ⟨mb, co, h1, h2, h3⟩ := hc.rep.obj b ob hb
      refine ⟨mb, co, by rw [hrT b ht]; exact h1, h2, ?_⟩
      rw [hlast b ht, hbelow]; exact h3
    · rw [hgN b ht] at hb
      obtain ⟨mb, co, h1, h2, h3⟩ := inv.obj b ob hb
      refine ⟨mb, co, hmono b mb h1, ?_, ?_⟩
      · rw [hc.frame.block mb (inv.dom b mb h1).1 fun hx => ?_]
        · exact h2
        · obtain ⟨x, h4, h5⟩ := hold mb hx
          have := inv.inj x b mb (hlive x h4) (by rw [hb]; simp) h5 h1
          exact ht (this ▸ .inl h4)
      · rw [lastT_other ht]; exact h3.mono (hbm _) hsz
  · by_cases tx : turns st W i x <;> by_cases ty : turns st W i y
    · rw [hgT x tx] at hx; rw [hgT y ty] at hy; rw [hrT x tx] at h1; rw [hrT y ty] at h2
      exact hc.rep.inj x y b hx hy h1 h2
    · rw [hgN y ty] at hy; rw [hrT x tx] at h1; rw [hrN y ty] at h2
      exact (cross x y b tx ty hy h1 h2).elim
    · rw [hgN x tx] at hx; rw [hrT y ty] at h2; rw [hrN x tx] at h1
      exact (cross y x b ty tx hx h2 h1).elim
    · rw [hgN x tx] at hx; rw [hgN y ty] at hy; rw [hrN x tx] at h1; rw [hrN y ty] at h2
      exact inv.inj x y b hx hy h1 h2
  · have := hR.mono (i := 0) (j := i) (by omega) (by omega)
    have := inv.le
    rw [hout x (fun h => by omega)]; exact inv.ext x hx
  · exact inv.frame.trans hc.frame fun b hb hx => (htouch b hx).resolve_left (by omega)
  · by_cases h : (st i).2.2 ≤ j ∧ j < (st (i + 1)).2.2
    · rw [hin j h.1 h.2] at hb
      rcases hc.fresh j b h.1 hb with h3 | h3
      · exact .inl (Nat.le_trans inv.frame.size h3)
      · exact htouch b h3
    · rw [hout j h] at hb; exact inv.fresh j b hj hb
  · have hk := inv.keep x hx h0
    by_cases ht : turns st W i x
    · exfalso
      rcases ht with hw | ⟨hn, _⟩
      · exact hlive x hw hk
      · have := hR.mono (i := 0) (j := i) (by omega) (by omega)
        have := inv.le
        omega
    · rw [hgN x ht]; exact hk
/-- Behind an operation that is passed over. -/
theorem LInv.skip (inv : LInv X ops st vs W D ρ a w) (hok : drawOk ops = true) (ho : ops[i]? = some o) (hnot : ¬ D i) (hv : vs i = undef) (hs : (st (i + 1)).2 = (st i).2) (hW : ∀ x, ¬ W i x) (hdx : ∀ d, o.dst = some d → d < X.nt) :
    LInv X ops st vs W (fun j => D j ∨ j = i) ρ (a.put o.dst undef) w := by
  have hi := (Array.getElem?_eq_some_iff.1 ho).1
  have hno : ∀ b, ¬ turns st W i b := fun b h => by
    rcases h with h | ⟨h1, h2⟩
    · exact hW b h
    · rw [hs] at h2; omega
  have hl : ∀ b, lastT st W (fun j => D j ∨ j = i) b ops.size = lastT st W D b ops.size := fun b => lastT_other (hno b) _
  have hg : gD st W (fun j => D j ∨ j = i) ops.size = gD st W D ops.size := by
    funext b
    show (st (lastT st W (fun j => D j ∨ j = i) b ops.size)).2.1 b = _
    rw [hl b]; rfl
  have hput : ∀ t, o.dst ≠ some t → (a.put o.dst undef).tmps.getD t undef = a.tmps.getD t undef := fun t ht => by
    cases hd : o.dst with
    | none => rfl
    | some d =>
      rw [getD_put a d undef (by rw [inv.size]; exact hdx d hd) t, if_neg (fun e => ht (by rw [hd, e]))]
  refine ⟨?_, fun j oj t h1 h2 h3 => ?_, fun t ht => ?_, fun x b hx => ?_, fun b ob hb => ?_, by rw [hg]; exact inv.inj, inv.le, inv.ext, inv.frame, inv.fresh, by rw [hg]; exact inv.keep, ?_⟩
  · cases o.dst with
    | none => exact inv.size
    | some d => simpa [Act.put] using inv.size
  · by_cases e : j = i
    · subst e
      rw [ho] at h1; cases h1
      rw [hv, h3, getD_put a t undef (by rw [inv.size]; exact hdx t h3) t, if_pos rfl]
      exact pureV_rel rfl
    · have hD := h2.resolve_right e
      rw [hput t fun hd => (drawOk_dst hok h1 ho (fun e' => e e'.symm) h3).1 hd]
      exact inv.here j oj t h1 hD h3
  · rw [hput t (ht i o ho (.inr rfl))]
    exact inv.old t fun j oj h1 h2 => ht j oj h1 (.inl h2)
  · obtain ⟨h1, h2⟩ := inv.dom x b hx
    exact ⟨h1, h2.imp id fun ⟨j, a1, a2, a3⟩ => ⟨j, a1, .inl a2, a3⟩⟩
  · rw [hg] at hb
    rw [hl b]; exact inv.obj b ob hb
  · cases o.dst <;> exact inv.defers
/-- The start. -/
theorem LInv.start (h : Cfg X (st 0).1 (st 0).2.1 (st 0).2.2 ρ a w) : LInv X ops st vs W (fun _ => False) ρ a w := by
  have hb : below ρ (st 0).2.2 = ρ := by
    funext x
    unfold below
    by_cases hx : x < (st 0).2.2
    · rw [if_pos hx]
    · rw [if_neg hx]; exact (h.rep.dom x (by omega)).symm
  have hl : ∀ b k, lastT st W (fun _ => False) b k = 0 := fun b k => by
    induction k with
    | zero => rfl
    | succ k ih => rw [lastT_not (fun x => x.1), ih]
  have hg : gD st W (fun _ => False) ops.size = (st 0).2.1 := by
    funext b
    show (st (lastT st W (fun _ => False) b ops.size)).2.1 b = _
    rw [hl]
  refine ⟨h.size, fun j oj t h1 h2 => h2.elim, fun t _ => by rw [hb]; exact h.regs t, fun x b hx => ⟨h.rep.old x b hx, .inl ?_⟩, fun b ob ho => ?_, by rw [hg]; exact h.rep.inj, h.le, h.ext, h.frame, h.fresh, by rw [hg]; exact h.keep, h.defers⟩
  · apply Classical.byContradiction; intro hn
    rw [h.rep.dom x (by omega)] at hx; cases hx
  · rw [hg] at ho
    rw [hl, hb]; exact h.rep.obj b ob ho
/-- The end. -/
theorem LInv.all (inv : LInv X ops st vs W D ρ a w) (hR : LRegion P may ops st vs F W) (hok : drawOk ops = true) (hd0 : ∀ x, (st 0).2.2 ≤ x → (st 0).2.1 x = none) (hall : ∀ j, j < ops.size → D j) :
    Cfg X (st ops.size).1 (st ops.size).2.1 (st ops.size).2.2 ρ a w := by
  have hg : gD st W D ops.size = (st ops.size).2.1 := by
    funext b
    rw [hR.heap hd0 b ops.size (Nat.le_refl _)]
    show (st (lastT st W D b ops.size)).2.1 b = _
    rw [lastT_congr (D := D) (D' := fun j => j < ops.size) ops.size fun j hj _ => ⟨fun _ => hj, fun _ => hall j hj⟩]
  refine ⟨inv.size, fun t => ?_, ⟨fun b ob hb => ?_, by rw [← hg]; exact inv.inj, fun x hx => ?_, fun x b hx => (inv.dom x b hx).1⟩, Nat.le_trans inv.le (hR.mono (i := 0) (j := ops.size) (by omega) (Nat.le_refl _)), inv.ext, inv.frame, inv.fresh, by rw [← hg]; exact inv.keep, inv.defers⟩
  · rw [hR.regs hok ops.size (Nat.le_refl _)]
    by_cases hex : ∃ (j : Nat) (oj : Oper), ops[j]? = some oj ∧ oj.dst = some t
    · obtain ⟨j, oj, h1, h3⟩ := hex
      have hj := (Array.getElem?_eq_some_iff.1 h1).1
      rw [TD_at hok (D := fun j => j < ops.size) h1 hj h3]
      exact (inv.here j oj t h1 (hall j hj) h3).mono below_sub (fun _ => Nat.le_refl _)
    · rw [TD_not fun j oj h1 _ h3 => hex ⟨j, oj, h1, h3⟩]
      exact (inv.old t fun j oj h1 _ h3 => hex ⟨j, oj, h1, h3⟩).mono below_sub (fun _ => Nat.le_refl _)
  · rw [← hg] at hb
    obtain ⟨mb, co, h1, h2, h3⟩ := inv.obj b ob hb
    exact ⟨mb, co, h1, h2, h3.mono below_sub (fun _ => Nat.le_refl _)⟩
  · cases hb : ρ x with
    | none => rfl
    | some b =>
      exfalso
      rcases (inv.dom x b hb).2 with h1 | ⟨j, hj, _, _, h2⟩
      · have := hR.mono (i := 0) (j := ops.size) (by omega) (Nat.le_refl _); omega
      · have := hR.mono (i := j + 1) (j := ops.size) (by omega) (Nat.le_refl _); omega
end
/-- **A region that draws its order**, with operations that are not ordered. -/
theorem wp_drawn2 {X : Ctx} (hm : X.P.follows .mixedOrders = true) (hok : drawOk ops = true) (hdst : ∀ (i : Nat) (o : Oper) (d : Tmp), ops[i]? = some o → o.dst = some d → d < X.nt)
    (hR : LRegion X.P X.may ops st vs F W) (hd0 : ∀ x, (st 0).2.2 ≤ x → (st 0).2.1 x = none)
    {Q : Exit → Act → World → Prop} {ρ : Nat → Option Nat} {a : Act} {w : World} {id : Nat} (h : Cfg X (st 0).1 (st 0).2.1 (st 0).2.2 ρ a w)
    (hQ : ∀ ρ a w, Cfg X (st ops.size).1 (st ops.size).2.1 (st ops.size).2.2 ρ a w → Q .normal a w) : (Code.region id ops true).wp X.P Q a w := by
  refine wp_region_any hm ?_
  have key : ∀ (fuel : Nat) (listed : Array Bool) (a : Act) (w : World), listed.size = ops.size →
      (∀ (i : Nat) (o : Oper), ops[i]? = some o → listed.getD i false = true → ∀ e ∈ o.after, Region.binds .any e = true → listed.getD e.on false = true) →
      cntU (fun i => listed.getD i false) ops.size ≤ fuel →
      (∃ ρ, LInv X ops st vs W (fun j => j < ops.size ∧ listed.getD j false = true) ρ a w) →
      wpAny X.P .any ops Q fuel listed a w := by
    intro fuel
    induction fuel with
    | zero =>
      intro listed a w hs hcl hcnt ⟨ρ, hc⟩
      have hall : ∀ i, i < ops.size → listed.getD i false = true := cntU_zero (Nat.le_zero.1 hcnt)
      have hready : Region.ready .any ops listed = [] := by
        rw [List.eq_nil_iff_forall_not_mem]
        intro i hi
        rw [mem_ready] at hi
        obtain ⟨h1, o, ho, _⟩ := hi
        have hlt := (Array.getElem?_eq_some_iff.1 ho).1
        have := hall i hlt
        rw [Array.getD_eq_getD_getElem?, Array.getElem?_eq_getElem (by omega)] at this h1
        simp at this h1
        rw [this] at h1; cases h1
      exact ⟨hready, hQ ρ a w (hc.all hR hok hd0 fun j hj => ⟨hj, hall j hj⟩)⟩
    | succ fuel ih =>
      intro listed a w hs hcl hcnt ⟨ρ, hc⟩
      refine ⟨fun hr => ?_, fun i hi => ?_⟩
      · have hall : ∀ i, i < ops.size → listed.getD i false = true := by
          intro i
          induction i using Nat.strongRecOn with
          | _ i ihi =>
            intro hi
            by_cases e : listed.getD i false = true
            · exact e
            · exfalso
              have hmem : i ∈ Region.ready .any ops listed := by
                rw [mem_ready]
                refine ⟨?_, ops[i], Array.getElem?_eq_getElem hi, fun e' he' hb => ?_⟩
                · rw [Array.getD_eq_getD_getElem?, Array.getElem?_eq_getElem (by omega)] at e ⊢
                  simpa using e
                · have hlt := drawOk_lt hok i _ (Array.getElem?_eq_getElem hi) e' he' hb
                  exact ihi e'.on hlt (by omega)
              rw [hr] at hmem; cases hmem
        exact hQ ρ a w (hc.all hR hok hd0 fun j hj => ⟨hj, hall j hj⟩)
      · rw [mem_ready] at hi
        obtain ⟨hun, o, ho, hdeps⟩ := hi
        have hlt := (Array.getElem?_eq_some_iff.1 ho).1
        have hnot' : ¬ listed.getD i false = true := by
          rw [Array.getD_eq_getD_getElem?, Array.getElem?_eq_getElem (by omega)] at hun ⊢
          simp at hun ⊢; exact hun
        have hnot : ¬ (i < ops.size ∧ listed.getD i false = true) := fun x => hnot' x.2
        have hpre : ∀ j, pre ops i j = true → (j < ops.size ∧ listed.getD j false = true) := fun j hj =>
          ⟨Nat.lt_trans (pre_lt hok ho hj) hlt, pre_closed (D := fun j => listed.getD j false = true) (drawOk_lt hok) hcl i o ho hdeps j hj⟩
        have hpost : ∀ j, (j < ops.size ∧ listed.getD j false = true) → pre ops j i = true → False := fun j hj hp =>
          hnot' (pre_closed (D := fun j => listed.getD j false = true) (drawOk_lt hok) hcl j ops[j] (Array.getElem?_eq_getElem hj.1) (hcl j _ (Array.getElem?_eq_getElem hj.1) hj.2) i hp)
        obtain ⟨o', b, ho', hw, hregs, hskip, hstep⟩ := (hR.each i hlt).op
        rw [ho] at ho'; cases ho'
        have hdo := fun d hd => hdst i o d ho hd
        have hset : ∀ j, (listed.setIfInBounds i true).getD j false = true ↔ (listed.getD j false = true ∨ j = i) := fun j => by
          by_cases e : j = i
          · subst e
            simp [Array.getD_eq_getD_getElem?, hs, hlt]
          · rw [getD_set_ne false (Ne.symm e)]
            exact ⟨.inl, fun h => h.resolve_right e⟩
        have hDset : (fun j => (j < ops.size ∧ listed.getD j false = true) ∨ j = i) = (fun j => j < ops.size ∧ (listed.setIfInBounds i true).getD j false = true) := by
          funext j
          refine propext ⟨fun h => ?_, fun h => ?_⟩
          · rcases h with h | h
            · exact ⟨h.1, (hset j).2 (.inl h.2)⟩
            · subst h; exact ⟨hlt, (hset j).2 (.inr rfl)⟩
          · exact ((hset j).1 h.2).imp (fun x => ⟨h.1, x⟩) (fun x => x)
        have hcl' : ∀ (j : Nat) (oj : Oper), ops[j]? = some oj → (listed.setIfInBounds i true).getD j false = true → ∀ e ∈ oj.after, Region.binds .any e = true → (listed.setIfInBounds i true).getD e.on false = true := by
          intro j oj hoj hj e he hb
          refine getD_set_true ?_
          rcases (hset j).1 hj with h' | h'
          · exact hcl j oj hoj h' e he hb
          · subst h'; rw [ho] at hoj; cases hoj; exact hdeps e he hb
        have hcnt' : cntU (fun j => (listed.setIfInBounds i true).getD j false) ops.size ≤ fuel := by
          have := cntU_add (D := fun j => listed.getD j false) (D' := fun j => (listed.setIfInBounds i true).getD j false) hlt (by simpa using hnot') ((hset i).2 (.inr rfl)) (fun j hj => getD_set_ne false (Ne.symm hj))
          omega
        have done : ∀ a' w' ρ', LInv X ops st vs W (fun j => (j < ops.size ∧ listed.getD j false = true) ∨ j = i) ρ' a' w' → wpAny X.P .any ops Q fuel (listed.setIfInBounds i true) a' w' :=
          fun a' w' ρ' hc' => ih _ _ _ (by simpa using hs) hcl' hcnt' ⟨ρ', by rw [← hDset]; exact hc'⟩
        have hsee := hc.sees (hc.base fun x hx => (hR.each i (Array.getElem?_eq_some_iff.1 ho).1).may x hx) hR hok hd0 ho (fun j hj => hj.1) hnot hpre hpost
        have hlk : ∀ t ∈ o.looksAt ops, (st i).1 t = lookT ops o (st i).1 t := fun t ht => (if_pos ht).symm
        have hwant := aWanted_sound hsee (b := b) (by rw [← aWanted_congr hlk]; exact hw)
        unfold wpOp
        simp only [ho, hwant]
        cases b with
        | false =>
          simp only [Bool.false_eq_true, if_false]
          obtain ⟨hv, hsame, hW⟩ := hskip rfl
          exact done _ _ _ (hc.skip hok ho hnot hv hsame hW hdo)
        | true =>
          simp only [if_true]
          refine .inl ?_
          obtain ⟨h', hst, hh⟩ := hstep rfl
          exact Step.wp (X := ⟨X.P, X.nt, below ρ (st i).2.2, res (F i) (st i).2.1, (st i).2.2, W i, w, _⟩) (hst.congr hlk) hsee hdo fun cv w' ρ' hc' => done _ _ _ (hc.next hR hok hd0 ho (fun j hj => hj.1) hnot hpre hpost hh hdo hc')
  refine key ops.size _ _ _ (by simp) (fun i o _ h => ?_) ?_ ⟨ρ, ?_⟩
  · exfalso
    rw [Array.getD_eq_getD_getElem?, Array.getElem?_replicate] at h
    split at h <;> simp at h
  · have : ∀ n, cntU (fun i => (Array.replicate ops.size false).getD i false) n ≤ n := by
      intro n
      induction n with
      | zero => exact Nat.le_refl _
      | succ n ih => simp only [cntU]; split <;> omega
    exact this _
  · have hD : (fun j => j < ops.size ∧ (Array.replicate ops.size false).getD j false = true) = (fun _ => False) := by
      funext j
      refine propext ⟨fun h => ?_, fun h => h.elim⟩
      have h := h.2
      rw [Array.getD_eq_getD_getElem?, Array.getElem?_replicate] at h
      split at h <;> simp at h
    rw [hD]
    exact LInv.start h.drew
end
end Go.Proofs.YtkcahnefekkfaaaAbs

namespace Go.Proofs.YtkcahnefekkfaaaAbs
open Go Go.RowKit
variable [Base]
/-- The block that a value addresses. -/
def fpV : Value → List Nat
  | .pointer (some ⟨b, _, none⟩) => [b]
  | .slice (some ⟨b, _, none⟩) _ _ => [b]
  | .map (some b) => [b]
  | _ => []
theorem aLoad_local {P : Program} {g g' : AMem} {t : TypeId} {a : Value} (h : ∀ b ∈ fpV a, g' b = g b) : aLoad P g' t a = aLoad P g t a := by
  unfold aLoad
  split
  · rename_i b o; rw [h b (by simp [fpV])]
  · rfl
theorem aStore_local {P : Program} {g g' : AMem} {t : TypeId} {v a : Value} (h : ∀ b ∈ fpV a, g' b = g b) : aStore P g' t v a = aStore P g t v a := by
  unfold aStore
  split
  · rename_i b o; rw [h b (by simp [fpV])]
  · rfl
theorem aRead_local {g g' : AMem} {e : Nat} {a : Value} (h : ∀ b ∈ fpV a, g' b = g b) : aRead g' e a = aRead g e a := by
  unfold aRead
  split
  · rfl
  · rename_i a m e'
    obtain ⟨b, o, s⟩ := a
    cases s with
    | none => rw [h b (by simp [fpV])]
    | some s => simp
  · rfl
theorem aCopy_local {P : Program} {g g' : AMem} {t : TypeId} {d s : Value} (hd : ∀ b ∈ fpV d, g' b = g b) (hs : ∀ b ∈ fpV s, g' b = g b) : aCopy P g' t d s = aCopy P g t d s := by
  unfold aCopy
  split
  · split
    · rw [aRead_local hs]
      split
      · split
        · rename_i b o dn e' ; rw [hd b (by simp [fpV])]
        · rfl
        · rfl
      · rfl
    · rfl
  · rfl
theorem aAppend_local {P : Program} {g g' : AMem} {n : Nat} {t : TypeId} {s x : Value} (hs : ∀ b ∈ fpV s, g' b = g b) (hx : ∀ b ∈ fpV x, g' b = g b) : aAppend P g' n t s x = aAppend P g n t s x := by
  unfold aAppend
  split
  · split
    · rw [aRead_local hx]
      split
      · split
        · split
          · rfl
          · split
            · split
              · rfl
              · rename_i b k e'; rw [hs b (by simp [fpV])]
              · rfl
              · rfl
            · rfl
        · rfl
      · rfl
    · rfl
  · rfl
theorem aSlice_local {P : Program} {g g' : AMem} {t : TypeId} {x : Value} {lo hi mx : Option Value} (h : ∀ b ∈ fpV x, g' b = g b) : aSlice P g' t x lo hi mx = aSlice P g t x lo hi mx := by
  unfold aSlice
  split
  · rfl
  · rfl
  · rename_i n el b o heq
    have : ∀ k, rowHas g' b k = rowHas g b k := fun k => by unfold rowHas; rw [h b (by simp [fpV])]
    simp only [this]
  · rfl
theorem aNext_local {g g' : AMem} {x : Value} (h : ∀ b ∈ fpV x, g' b = g b) : aNext g' x = aNext g x := by
  unfold aNext
  split
  · rename_i b; rw [h b (by simp [fpV])]
  · rfl
theorem mapHas_local {g g' : AMem} {x : Value} (h : ∀ b ∈ fpV x, g' b = g b) : mapHas g' x = mapHas g x := by
  unfold mapHas
  split
  · rfl
  · rename_i b; rw [h b (by simp [fpV])]
  · rfl
theorem aLookup_local {P : Program} {g g' : AMem} {t : TypeId} {x i : Value} {ok : Bool} (h : ∀ b ∈ fpV x, g' b = g b) : aLookup P g' t x i ok = aLookup P g t x i ok := by
  unfold aLookup; rw [mapHas_local h]
theorem aMapPut_local {P : Program} {g g' : AMem} {t : TypeId} {m i v : Value} (h : ∀ b ∈ fpV m, g' b = g b) : aMapPut P g' t m i v = aMapPut P g t m i v := by
  unfold aMapPut
  split
  · split
    · rename_i k a b _; rw [h b (by simp [fpV])]
    · rfl
  · rfl
theorem aOp_local {P : Program} {ty : TypeId} {ev : Operand → Value} {g g' : AMem} {n : Nat} (op : Op) (h : ∀ x ∈ op.operands, ∀ b ∈ fpV (ev x), g' b = g b) : aOp P ty ev g' n op = aOp P ty ev g n op := by
  cases op with
  | load t a => simp only [aOp]; rw [aLoad_local (h a (by simp [Op.operands]))]
  | next x s => simp only [aOp]; rw [aNext_local (h x (by simp [Op.operands]))]
  | lookup t x i ok => simp only [aOp]; rw [aLookup_local (h x (by simp [Op.operands]))]
  | mapUpdate t m i v => simp only [aOp]; rw [aMapPut_local (h m (by simp [Op.operands]))]
  | store t a v => simp only [aOp]; rw [aStore_local (h a (by simp [Op.operands]))]
  | call c =>
    obtain ⟨callee, args, argTypes⟩ := c
    cases callee with
    | builtin b =>
      simp only [Op.operands, Call.operands, Array.empty_append] at h
      simp only [aOp, aBuiltin]
      split
      · rfl
      · rename_i s x t t' heq1 heq2
        rw [aAppend_local (h s (by rw [← Array.mem_toList_iff, heq1]; simp)) (h x (by rw [← Array.mem_toList_iff, heq1]; simp))]
      · rename_i d s t t' heq1 heq2
        rw [aCopy_local (h d (by rw [← Array.mem_toList_iff, heq1]; simp)) (h s (by rw [← Array.mem_toList_iff, heq1]; simp))]
      all_goals rfl
    | _ => rfl
  | slice t x lo hi mx =>
    have hx : ∀ b ∈ fpV (ev x), g' b = g b := h x (by cases lo <;> cases hi <;> cases mx <;> simp [Op.operands])
    simp only [aOp, aSlice_local hx]
  | _ => rfl
end Go.Proofs.YtkcahnefekkfaaaAbs

namespace Go.Proofs.YtkcahnefekkfaaaAbs
open Go Go.RowKit
variable [Base]
/-- What an operation asked and did. -/
structure LEnt where
  F : Nat → Prop
  W : Nat → Prop
  lo : Nat
  hi : Nat
/-- Not in each other's way. -/
def LEnt.free (e : LEnt) (F W : Nat → Prop) : Prop := (∀ b, (e.W b ∨ e.lo ≤ b ∧ b < e.hi) → ¬ F b) ∧ ∀ b, e.F b → ¬ W b
def noEnt (n : Nat) : LEnt := ⟨fun _ => False, fun _ => False, n, n⟩
open Classical in
/-- A heap, part of it as the call left it. -/
noncomputable def laid (g h' : AMem) (t : Nat → Prop) (n : Nat) : AMem := fun x => if t x ∨ n ≤ x then h' x else g x
/-- The blocks that an operation's operands address. -/
def fpO (o : Oper) (T : Regs) (g : AMem) : Nat → Prop := fun b => pureOp o.op = false ∧ (∃ x ∈ o.op.operands, b ∈ fpV (aEval T x)) ∧ g b ≠ none
/-- One operation, with regard to those that it is not ordered with. -/
def lStep (P : Program) (may : Nat → Prop) (un : List Nat) (log : List LEnt) (o : Oper) (T : Regs) (g : AMem) (n : Nat) (K : LEnt → Value → AMem → Nat → Prop) : Prop :=
  match aCall T o.op with
  | some (f, args) => goFn P f = true ∧ ∃ F t v h' n', FnC P f args (res F g) n t v h' n' ∧ (∀ x, t x → F x ∧ may x ∧ g x ≠ none) ∧ (∀ x, F x → x < n) ∧ n ≤ n' ∧ (∀ x, n' ≤ x → h' x = none) ∧
      (∀ i ∈ un, (log.getD i (noEnt n)).free F t) ∧ K ⟨F, t, n, n'⟩ v (laid g h' t n) n'
  | none => ∃ v ε, aOp P o.type (aEval T) g n o.op = some (v, ε) ∧ (∀ x, ε.touch x → may x) ∧
      (∀ i ∈ un, (log.getD i (noEnt n)).free (fpO o T g) ε.touch) ∧
      K ⟨fpO o T g, ε.touch, n, ε.next n⟩ v (ε.mem g n) (ε.next n)
def lRun (P : Program) (may : Nat → Prop) (ops : Array Oper) (Q : Regs → AMem → Nat → Prop) : List (Oper × List Nat) → List LEnt → Regs → AMem → Nat → Prop
  | [], _, T, g, n => Q T g n
  | (o, un) :: rest, log, T, g, n => ∃ b, aWanted ops T o = some b ∧
      (b = true → lStep P may un log o T g n fun e v g' n' => lRun P may ops Q rest (log ++ [e]) (upd T o.dst v) g' n') ∧
      (b = false → lRun P may ops Q rest (log ++ [noEnt n]) (upd T o.dst undef) g n)

theorem aStore_touch {P : Program} {g : AMem} {t : TypeId} {v a : Value} {ε : Eff} (h : aStore P g t v a = some ε) {x : Nat} (hx : ε.touch x) : x ∈ fpV a ∧ g x ≠ none := by
  unfold aStore at h
  split at h
  · split at h
    · rename_i cs hg
      split at h
      · cases h; cases hx; exact ⟨by simp [fpV], by rw [hg]; simp⟩
      · cases h
    · cases h
  · cases h
theorem aCopy_touch {P : Program} {g : AMem} {t : TypeId} {d s v : Value} {ε : Eff} (h : aCopy P g t d s = some (v, ε)) {x : Nat} (hx : ε.touch x) : x ∈ fpV d ∧ g x ≠ none := by
  unfold aCopy at h
  repeat' (first | (cases h; done) | split at h)
  all_goals first
    | (cases h; exact hx.elim)
    | (rename_i hg _; cases h; cases hx; exact ⟨by simp [fpV], by rw [hg]; simp⟩)
theorem aAppend_touch {P : Program} {g : AMem} {n : Nat} {t : TypeId} {s y v : Value} {ε : Eff} (h : aAppend P g n t s y = some (v, ε)) {x : Nat} (hx : ε.touch x) : x ∈ fpV s ∧ g x ≠ none := by
  unfold aAppend at h
  repeat' (first | (cases h; done) | split at h)
  all_goals first
    | (cases h; exact hx.elim)
    | (rename_i hg _; cases h; cases hx; exact ⟨by simp [fpV], by rw [hg]; simp⟩)
theorem aNext_touch {g : AMem} {y v : Value} {ε : Eff} (h : aNext g y = some (v, ε)) {x : Nat} (hx : ε.touch x) : x ∈ fpV y ∧ g x ≠ none := by
  unfold aNext at h
  split at h
  · split at h
    · rename_i hg
      simp only [nextS, Option.some.injEq] at h
      split at h
      · cases h; cases hx; exact ⟨by simp [fpV], by rw [hg]; simp⟩
      · cases h; exact hx.elim
    · cases h
  · cases h
theorem aMapPut_touch {P : Program} {g : AMem} {t : TypeId} {m i v : Value} {ε : Eff} (h : aMapPut P g t m i v = some ε) {x : Nat} (hx : ε.touch x) : x ∈ fpV m ∧ g x ≠ none := by
  unfold aMapPut at h
  repeat' (first | (cases h; done) | split at h)
  all_goals (rename_i hg _ _ _; cases h; cases hx; exact ⟨by simp [fpV], by simp_all⟩)
theorem aOp_touch {P : Program} {ty : TypeId} {ev : Operand → Value} {g : AMem} {n : Nat} (op : Op) {v : Value} {ε : Eff} (h : aOp P ty ev g n op = some (v, ε)) {x : Nat} (hx : ε.touch x) : (∃ y ∈ op.operands, x ∈ fpV (ev y)) ∧ g x ≠ none := by
  by_cases hp : pureOp op = true
  · obtain ⟨rfl, _⟩ := aOp_pure hp h; exact hx.elim
  cases op with
  | store t a v' =>
    simp only [aOp, Option.map_eq_some_iff, Prod.mk.injEq] at h
    obtain ⟨e, h1, _, rfl⟩ := h
    obtain ⟨h2, h3⟩ := aStore_touch h1 hx
    exact ⟨⟨a, by simp [Op.operands], h2⟩, h3⟩
  | call c =>
    obtain ⟨callee, args, argTypes⟩ := c
    cases callee with
    | builtin b =>
      simp only [aOp, aBuiltin] at h
      split at h
      all_goals first
        | (cases h; done)
        | (simp [pureOp] at hp; done)
        | skip
      · rename_i s y t t' heq1 heq2
        split at h
        · obtain ⟨h2, h3⟩ := aAppend_touch h hx
          exact ⟨⟨s, by simp only [Op.operands, Call.operands, Array.empty_append]; rw [← Array.mem_toList_iff, heq1]; simp, h2⟩, h3⟩
        · cases h
      · rename_i d s t t' heq1 heq2
        obtain ⟨h2, h3⟩ := aCopy_touch h hx
        exact ⟨⟨d, by simp only [Op.operands, Call.operands, Array.empty_append]; rw [← Array.mem_toList_iff, heq1]; simp, h2⟩, h3⟩
    | _ => simp [aOp] at h
  | next y s =>
    simp only [aOp] at h
    split at h
    · obtain ⟨h2, h3⟩ := aNext_touch h hx
      exact ⟨⟨y, by simp [Op.operands], h2⟩, h3⟩
    · cases h
  | mapUpdate t m i v' =>
    simp only [aOp, Option.map_eq_some_iff, Prod.mk.injEq] at h
    obtain ⟨e, h1, _, rfl⟩ := h
    obtain ⟨h2, h3⟩ := aMapPut_touch h1 hx
    exact ⟨⟨m, by simp [Op.operands], h2⟩, h3⟩
  | range t y =>
    simp only [aOp] at h
    unfold aRange at h
    repeat' (first | (cases h; done) | split at h)
    all_goals (cases h; exact hx.elim)
  | makeMap t r =>
    simp only [aOp] at h
    unfold aMakeMap at h
    repeat' (first | (cases h; done) | split at h)
    all_goals (cases h; exact hx.elim)
  | makeSlice t l c =>
    simp only [aOp] at h
    unfold aMake at h
    repeat' (first | (cases h; done) | split at h)
    all_goals (cases h; exact hx.elim)
  | _ =>
    first
      | (simp [pureOp] at hp; done)
      | (simp [aOp] at h; done)
      | simp only [aOp] at h
    repeat' (first | (cases h; done) | split at h)
    all_goals first
      | (cases h; exact hx.elim)
      | (obtain ⟨u, _, e⟩ := Option.map_eq_some_iff.1 h; cases e; exact hx.elim)
theorem eff_same {ε : Eff} {g : AMem} {n x : Nat} (ht : ¬ ε.touch x) (hx : x < n) : ε.mem g n x = g x := by
  cases ε with
  | none => rfl
  | new o => simp [Eff.mem, gset]; omega
  | put i o => simp [Eff.mem, gset]; intro e; exact absurd e.symm (fun e => ht (by subst e; rfl))
  | move i o =>
    simp only [Eff.mem, gset]
    rw [if_neg (by omega), if_neg (fun e => ht (by subst e; rfl))]
theorem eff_res {ε : Eff} {g g2 : AMem} {n x : Nat} (h : ε.touch x ∨ n ≤ x) (h1 : ∀ x, n ≤ x → g x = none) (h2 : ∀ x, n ≤ x → g2 x = none) : ε.mem g n x = ε.mem g2 n x := by
  cases ε with
  | none => rcases h with h | h
            · exact h.elim
            · show g x = g2 x; rw [h1 x h, h2 x h]
  | new o =>
    simp only [Eff.mem, gset]
    split
    · rfl
    · rcases h with h | h
      · exact h.elim
      · rw [h1 x h, h2 x h]
  | put i o =>
    simp only [Eff.mem, gset]
    split
    · rfl
    · rename_i hne
      rcases h with h | h
      · exact absurd h (fun e => hne (by cases e; rfl))
      · rw [h1 x h, h2 x h]
  | move i o =>
    simp only [Eff.mem, gset]
    split
    · rfl
    · split
      · rfl
      · rename_i hne
        rcases h with h | h
        · exact absurd h (fun e => hne (by cases e; rfl))
        · rw [h1 x h, h2 x h]

theorem laid_in {g h' : AMem} {t : Nat → Prop} {n x : Nat} (h : t x ∨ n ≤ x) : laid g h' t n x = h' x := if_pos h
theorem laid_out {g h' : AMem} {t : Nat → Prop} {n x : Nat} (h : ¬ (t x ∨ n ≤ x)) : laid g h' t n x = g x := if_neg h
theorem eff_dom {ε : Eff} {g : AMem} {n : Nat} (hd : ∀ x, n ≤ x → g x = none) (ht : ∀ x, ε.touch x → g x ≠ none) : ∀ x, ε.next n ≤ x → ε.mem g n x = none := fun x hx => by
  cases ε with
  | none => exact hd x hx
  | new o => simp only [Eff.next] at hx; simp only [Eff.mem, gset]; rw [if_neg (by omega)]; exact hd x (by omega)
  | put i o =>
    simp only [Eff.next] at hx
    simp only [Eff.mem, gset]
    rw [if_neg (fun e => by subst e; exact ht x rfl (hd x hx))]; exact hd x hx
  | move i o =>
    simp only [Eff.next] at hx
    simp only [Eff.mem, gset]
    rw [if_neg (by omega)]
    split
    · rfl
    · exact hd x (by omega)
theorem eff_le (ε : Eff) (n : Nat) : n ≤ ε.next n := by cases ε <;> simp [Eff.next]

/-- It asks the heap, and does nothing to it. -/
def readOp : Op → Bool
  | .load .. => true
  | .slice .. => true
  | _ => false
theorem aOp_read {P : Program} {ty : TypeId} {ev : Operand → Value} {g : AMem} {n : Nat} {op : Op} {v : Value} {ε : Eff} (hp : readOp op = true) (h : aOp P ty ev g n op = some (v, ε)) : ε = .none := by
  cases op with
  | load t a =>
    simp only [aOp, Option.map_eq_some_iff, Prod.mk.injEq] at h
    obtain ⟨_, _, _, rfl⟩ := h; rfl
  | slice t x lo hi mx =>
    simp only [aOp] at h
    split at h
    · split at h
      · obtain ⟨_, _, e⟩ := Option.map_eq_some_iff.1 h
        cases e; rfl
      · cases h
    · obtain ⟨_, _, e⟩ := Option.map_eq_some_iff.1 h
      cases e; rfl
  | _ => simp [readOp] at hp
theorem aCall_not_read {T : Regs} {op : Op} {x : FuncId × List Value} (h : aCall T op = some x) : readOp op = false := by
  cases op <;> first | rfl | (simp [aCall] at h; done)

/-- What one operation's step tells. -/
structure LTells (P : Program) (may : Nat → Prop) (un : List Nat) (log : List LEnt) (o : Oper) (T : Regs) (g : AMem) (n : Nat) (e : LEnt) (v : Value) (g' : AMem) (n' : Nat) : Prop where
  step : ∃ h', Step P (fun x => x < n → e.W x) o T (res e.F g) n v h' n' ∧ ∀ x, (e.W x ∨ n ≤ x) → g' x = h' x
  sub : ∀ x, e.W x → e.F x
  lt : ∀ x, e.F x → x < n
  le : n ≤ n'
  may : ∀ x, e.W x → may x
  same : ∀ x, ¬ e.W x → x < n → g' x = g x
  dom : ∀ x, n' ≤ x → g' x = none
  live : ∀ x, e.W x → g x ≠ none
  lo : e.lo = n
  hi : e.hi = n'
  apart : ∀ i ∈ un, (log.getD i (noEnt n)).free e.F e.W
  idle : pureOp o.op = true → (∀ x, ¬ e.F x) ∧ (∀ x, ¬ e.W x) ∧ n' = n
  still : readOp o.op = true → (∀ x, ¬ e.W x) ∧ n' = n
theorem lStep_tells {P : Program} {may : Nat → Prop} {un : List Nat} {log : List LEnt} {o : Oper} {T : Regs} {g : AMem} {n : Nat} {K : LEnt → Value → AMem → Nat → Prop} (hd : ∀ x, n ≤ x → g x = none) (h : lStep P may un log o T g n K) :
    ∃ e v g' n', LTells P may un log o T g n e v g' n' ∧ K e v g' n' := by
  unfold lStep at h
  split at h
  · rename_i f args hc
    obtain ⟨h1, F, t, v, h', n', h2, h3, h4, h5, h6, h7, h8⟩ := h
    refine ⟨_, _, _, _, ⟨⟨h', .inr ⟨f, args, t, hc, h1, h2, fun x hx _ => hx⟩, fun x hx => laid_in hx⟩, fun x hx => (h3 x hx).1, h4, h5, fun x hx => (h3 x hx).2.1, fun x h9 h10 => laid_out (by rintro (h | h); exact h9 h; omega), fun x hx => ?_, fun x hx => (h3 x hx).2.2, rfl, rfl, h7, (fun hp => by rw [aCall_not_pure hc] at hp; cases hp), (fun hp => by rw [aCall_not_read hc] at hp; cases hp)⟩, h8⟩
    rw [laid_in (.inr (by omega))]; exact h6 x hx
  · rename_i hc
    obtain ⟨v, ε, h1, h2, h3, h4⟩ := h
    have ht : ∀ x, ε.touch x → fpO o T g x := fun x hx => by
      obtain ⟨h5, h6⟩ := aOp_touch o.op h1 hx
      refine ⟨?_, h5, h6⟩
      cases hp : pureOp o.op
      · rfl
      · obtain ⟨rfl, _⟩ := aOp_pure hp h1; exact hx.elim
    have hlt : ∀ x, g x ≠ none → x < n := fun x hx => by
      apply Classical.byContradiction; intro hn; exact hx (hd x (by omega))
    have hres : ∀ x, n ≤ x → res (fpO o T g) g x = none := fun x hx => res_out fun hf => by
      have := hlt x hf.2.2; omega
    refine ⟨⟨fpO o T g, ε.touch, n, ε.next n⟩, v, ε.mem g n, ε.next n, ⟨⟨ε.mem (res (fpO o T g) g) n, .inl ⟨ε, hc, ?_, fun x hx _ => hx, rfl, rfl⟩, fun x hx => eff_res hx hd hres⟩, ht, fun x hx => hlt x hx.2.2, eff_le ε n, h2, fun x h9 h10 => eff_same h9 h10, eff_dom hd fun x hx => (ht x hx).2.2, fun x hx => (ht x hx).2.2, rfl, rfl, h3, fun hp => ?_, (fun hp => by obtain rfl := aOp_read hp h1; exact ⟨fun x hx => hx, rfl⟩)⟩, h4⟩
    · cases hp : pureOp o.op
      · rw [← h1]
        refine aOp_local o.op fun y hy b hb => ?_
        by_cases hg : g b = none
        · rw [res_out (fun hf => hf.2.2 hg), hg]
        · rw [res_in ⟨hp, ⟨y, hy, hb⟩, hg⟩]
      · obtain ⟨rfl, h6⟩ := aOp_pure hp h1; exact h6 _ _
    · obtain ⟨rfl, _⟩ := aOp_pure hp h1
      refine ⟨fun x hx => ?_, fun x hx => hx, rfl⟩
      have hx1 : pureOp o.op = false := hx.1
      rw [hp] at hx1; cases hx1

/-- What the walk tells of operation i. -/
structure LAt (P : Program) (may : Nat → Prop) (ops : Array Oper) (uns : List (List Nat)) (i : Nat) (s : St) (v : Value) (s' : St) (E : Nat → LEnt) : Prop where
  rc : LRec P may ops i s v s' (E i).F (E i).W
  lo : (E i).lo = s.2.2
  hi : (E i).hi = s'.2.2
  apart : ∀ k ∈ uns.getD i [], k < i → (E k).free (E i).F (E i).W
  idle : ∀ o, ops[i]? = some o → pureOp o.op = true → (∀ x, ¬ (E i).F x) ∧ (∀ x, ¬ (E i).W x) ∧ s'.2.2 = s.2.2
  still : ∀ o, ops[i]? = some o → readOp o.op = true → (∀ x, ¬ (E i).W x) ∧ s'.2.2 = s.2.2

section
variable {P : Program} {may : Nat → Prop} {ops : Array Oper} {uns : List (List Nat)}
theorem lRun_seq {Q : Regs → AMem → Nat → Prop} : ∀ (l : List (Oper × List Nat)) (i0 : Nat) (log : List LEnt) (T : Regs) (g : AMem) (n : Nat),
    (∀ k x, l[k]? = some x → ops[i0 + k]? = some x.1 ∧ uns.getD (i0 + k) [] = x.2) → i0 + l.length = ops.size → log.length = i0 → (∀ x, n ≤ x → g x = none) → lRun P may ops Q l log T g n →
    ∃ (st : Nat → St) (vs : Nat → Value) (E : Nat → LEnt), st i0 = (T, g, n) ∧ (∀ k, k < i0 → E k = log.getD k (noEnt n)) ∧ (∀ i, i0 ≤ i → i < ops.size → LAt P may ops uns i (st i) (vs i) (st (i + 1)) E) ∧ Q (st ops.size).1 (st ops.size).2.1 (st ops.size).2.2
  | [], i0, log, T, g, n, _, hl, _, _, h => ⟨fun _ => (T, g, n), fun _ => undef, fun k => log.getD k (noEnt n), rfl, fun _ _ => rfl, fun i h1 h2 => by simp at hl; omega, h⟩
  | (o, un) :: rest, i0, log, T, g, n, hk, hl, hlog, hd, h => by
    obtain ⟨ho, hun⟩ := hk 0 (o, un) rfl
    simp only [Nat.add_zero] at ho hun
    obtain ⟨b, hw, ht, hf⟩ := h
    have hk' : ∀ k x, rest[k]? = some x → ops[i0 + 1 + k]? = some x.1 ∧ uns.getD (i0 + 1 + k) [] = x.2 := fun k x hx => by
      have := hk (k + 1) x (by simpa using hx)
      rw [show i0 + (k + 1) = i0 + 1 + k by omega] at this
      exact this
    have hl' : i0 + 1 + rest.length = ops.size := by simp at hl; omega
    have build : ∀ e v g' n', (∀ x, n' ≤ x → g' x = none) → (∀ E : Nat → LEnt, E i0 = e → (∀ k, k < i0 → E k = log.getD k (noEnt n)) → LAt P may ops uns i0 (T, g, n) v (upd T o.dst v, g', n') E) →
        lRun P may ops Q rest (log ++ [e]) (upd T o.dst v) g' n' →
        ∃ (st : Nat → St) (vs : Nat → Value) (E : Nat → LEnt), st i0 = (T, g, n) ∧ (∀ k, k < i0 → E k = log.getD k (noEnt n)) ∧ (∀ i, i0 ≤ i → i < ops.size → LAt P may ops uns i (st i) (vs i) (st (i + 1)) E) ∧ Q (st ops.size).1 (st ops.size).2.1 (st ops.size).2.2 := by
      intro e v g' n' hd' hat hr
      obtain ⟨st, vs, E, e1, e2, e3, e4⟩ := lRun_seq rest (i0 + 1) (log ++ [e]) _ _ _ hk' hl' (by simp [hlog]) hd' hr
      have hEi : E i0 = e := by
        rw [e2 i0 (by omega), List.getD_eq_getElem?_getD, List.getElem?_append_right (by omega)]
        simp [hlog]
      have hEk : ∀ k, k < i0 → E k = log.getD k (noEnt n) := fun k hki => by
        rw [e2 k (by omega), List.getD_eq_getElem?_getD, List.getElem?_append_left (by omega), List.getD_eq_getElem?_getD, List.getElem?_eq_getElem (by omega)]
        rfl
      refine ⟨fun j => if j = i0 then (T, g, n) else st j, fun j => if j = i0 then v else vs j, E, if_pos rfl, hEk, fun j hj1 hj2 => ?_, ?_⟩
      · by_cases e : j = i0
        · subst e
          simp only [if_pos, if_neg (show ¬ j + 1 = j by omega), e1]
          exact hat E hEi hEk
        · simp only [if_neg e, if_neg (show ¬ j + 1 = i0 by omega)]
          exact e3 j (by omega) hj2
      · have hne : ¬ ops.size = i0 := by have := (Array.getElem?_eq_some_iff.1 ho).1; omega
        simp only [if_neg hne]; exact e4
    cases b with
    | false =>
      refine build (noEnt n) undef g n hd (fun E hE hEk => ?_) (hf rfl)
      refine ⟨?_, by rw [hE]; rfl, by rw [hE]; rfl, fun k _ _ => ?_, fun _ _ _ => by rw [hE]; exact ⟨fun _ h => h, fun _ h => h, rfl⟩, fun _ _ _ => by rw [hE]; exact ⟨fun _ h => h, rfl⟩⟩
      · rw [hE]
        exact ⟨⟨o, false, ho, hw, rfl, fun _ => ⟨rfl, rfl, fun _ h => h⟩, fun e => by cases e⟩, fun _ h => h.elim, fun _ h => h.elim, Nat.le_refl _, fun _ h => h.elim, fun _ _ _ => rfl, hd, fun _ h => h.elim⟩
      · rw [hE]; exact ⟨fun _ _ h => h, fun _ _ h => h⟩
    | true =>
      obtain ⟨e, v, g', n', h1, h2⟩ := lStep_tells hd (ht rfl)
      refine build e v g' n' h1.dom (fun E hE hEk => ?_) h2
      refine ⟨?_, by rw [hE]; exact h1.lo, by rw [hE]; exact h1.hi, fun k hk hki => ?_, fun o' ho' hp => ?_, fun o' ho' hp => ?_⟩
      · rw [hE]
        exact ⟨⟨o, true, ho, hw, rfl, (fun e => by cases e), fun _ => h1.step⟩, h1.sub, h1.lt, h1.le, h1.may, h1.same, h1.dom, h1.live⟩
      · rw [hun] at hk
        rw [hE, hEk k hki]; exact h1.apart k hk
      · rw [ho] at ho'; cases ho'
        rw [hE]; exact h1.idle hp
      · rw [ho] at ho'; cases ho'
        rw [hE]; exact h1.still hp
/-- All that a region's operation is not ordered with, and stands ahead of it, is listed. -/
def unsOk (ops : Array Oper) (uns : List (List Nat)) : Bool := (List.range ops.size).all fun j => (List.range j).all fun i =>
  pre ops j i || (uns.getD j []).contains i || (match ops[i]? with | some o => pureOp o.op | none => true) || (match ops[j]? with | some o => pureOp o.op | none => true) || (match ops[i]?, ops[j]? with | some o, some o' => readOp o.op && readOp o'.op | _, _ => true)
theorem lRegion_of {st : Nat → St} {vs : Nat → Value} {E : Nat → LEnt} (hu : unsOk ops uns = true) (h : ∀ i, i < ops.size → LAt P may ops uns i (st i) (vs i) (st (i + 1)) E) : LRegion P may ops st vs (fun i => (E i).F) (fun i => (E i).W) := by
  refine ⟨fun i hi => (h i hi).rc, fun i j hij hj hp => ?_⟩
  have hi : i < ops.size := by omega
  simp only [unsOk, List.all_eq_true, List.mem_range, Bool.or_eq_true] at hu
  have hu := hu j hj i hij
  rw [hp, Array.getElem?_eq_getElem hi, Array.getElem?_eq_getElem hj] at hu
  simp only [Bool.false_eq_true, false_or] at hu
  have ai := h i hi
  have aj := h j hj
  have tn : ∀ b, turns st (fun i => (E i).W) i b → ((E i).W b ∨ (E i).lo ≤ b ∧ b < (E i).hi) := fun b hb => by
    rw [ai.lo, ai.hi]; exact hb
  rcases hu with ((hu | hu) | hu) | hu
  · have := aj.apart i (by simpa using hu) hij
    exact ⟨fun b hb => this.1 b (tn b hb), this.2⟩
  · obtain ⟨h1, h2, h3⟩ := ai.idle _ (Array.getElem?_eq_getElem hi) hu
    refine ⟨fun b hb => ?_, fun b hb => (h1 b hb).elim⟩
    rcases hb with hb | ⟨hb1, hb2⟩
    · exact (h2 b hb).elim
    · omega
  · obtain ⟨h1, h2, h3⟩ := aj.idle _ (Array.getElem?_eq_getElem hj) hu
    exact ⟨fun b _ hb => h1 b hb, fun b _ hb => h2 b hb⟩
  · simp only [Bool.and_eq_true] at hu
    obtain ⟨h1, h2⟩ := ai.still _ (Array.getElem?_eq_getElem hi) hu.1
    obtain ⟨h3, h4⟩ := aj.still _ (Array.getElem?_eq_getElem hj) hu.2
    refine ⟨fun b hb => ?_, fun b _ hb => h3 b hb⟩
    rcases hb with hb | ⟨hb1, hb2⟩
    · exact (h1 b hb).elim
    · omega
/-- **A region with unordered operations, by its walk.** -/
theorem wp_lRun {X : Ctx} (hm : X.P.follows .mixedOrders = true) (hok : drawOk ops = true) (hdst : ∀ (i : Nat) (o : Oper) (d : Tmp), ops[i]? = some o → o.dst = some d → d < X.nt) (hu : unsOk ops uns = true) (hul : uns.length = ops.size)
    {T : Regs} {g : AMem} {n : Nat} {K : Regs → AMem → Nat → Prop} (h : lRun X.P X.may ops K (ops.toList.zip uns) [] T g n)
    {ρ : Nat → Option Nat} {a : Act} {w : World} {id : Nat} {Q : Exit → Act → World → Prop} (hc : Cfg X T g n ρ a w)
    (hQ : ∀ T g n ρ a w, Cfg X T g n ρ a w → K T g n → Q .normal a w) : (Code.region id ops true).wp X.P Q a w := by
  have hd : ∀ x, n ≤ x → g x = none := fun x hx => by
    cases hg : g x with
    | none => rfl
    | some o => have := hc.rep.ltg hg; omega
  obtain ⟨st, vs, E, e1, e2, e3, e4⟩ := lRun_seq (uns := uns) (ops.toList.zip uns) 0 [] T g n (fun k x hx => by
    rw [List.getElem?_zip_eq_some] at hx
    rw [Nat.zero_add]
    exact ⟨by simpa using hx.1, by rw [List.getD_eq_getElem?_getD, hx.2]; rfl⟩) (by simp [hul]) rfl hd h
  have hR := lRegion_of hu fun i hi => e3 i (Nat.zero_le _) hi
  exact wp_drawn2 hm hok hdst hR (by rw [e1]; exact hd) (by rw [e1]; exact hc) fun ρ a w hc' => hQ _ _ _ ρ a w hc' e4
end
end Go.Proofs.YtkcahnefekkfaaaAbs

namespace Go.Proofs.YtkcahnefekkfaaaAbs
open Go Go.RowKit
variable [Base]

/-- A set of blocks. -/
inductive Fp where
  | bs (l : List Nat)
  | rng (lo hi : Nat)
  | pr (F : Nat → Prop)
def Fp.mem : Fp → Nat → Prop
  | .bs l, b => b ∈ l
  | .rng lo hi, b => lo ≤ b ∧ b < hi
  | .pr F, b => F b
/-- It is not among them. -/
def Fp.out (A : Fp) (b : Nat) : Prop := ¬ A.mem b
def Fp.sep (A B : Fp) : Prop := ∀ x, A.mem x → ¬ B.mem x
/-- What an operation asked (F), wrote (W), made (from lo, below hi). -/
structure DEnt where
  F : Fp
  W : Fp
  lo : Nat
  hi : Nat
abbrev DLog := List (Nat × DEnt)
def dget (i : Nat) : DLog → Option DEnt
  | [] => none
  | (k, e) :: r => if i = k then some e else dget i r
def dsep1 (F W : Fp) : Option DEnt → Prop
  | none => True
  | some e => F.sep e.W ∧ F.sep (.rng e.lo e.hi) ∧ e.F.sep W
/-- Apart from those that it is not ordered with. -/
def dsep (log : DLog) (F W : Fp) : List Nat → Prop
  | [] => True
  | i :: un => dsep1 F W (dget i log) ∧ dsep log F W un

/-! ### Rules -/
theorem out_nil (b : Nat) : (Fp.bs []).out b = True := by simp [Fp.out, Fp.mem]
theorem out_cons {b c : Nat} {l : List Nat} (h : b ≠ c) : (Fp.bs (c :: l)).out b = (Fp.bs l).out b := by simp [Fp.out, Fp.mem, h]
theorem out_rng {b lo hi : Nat} (h : b < lo ∨ hi ≤ b) : (Fp.rng lo hi).out b = True := by simp [Fp.out, Fp.mem]; omega
theorem out_pr (F : Nat → Prop) (b : Nat) : (Fp.pr F).out b = ¬ F b := rfl
theorem sep_nil (B : Fp) : (Fp.bs []).sep B = True := by simp [Fp.sep, Fp.mem]
theorem sep_nil' (A : Fp) : A.sep (.bs []) = True := by simp [Fp.sep, Fp.mem]
theorem sep_cons (b : Nat) (l : List Nat) (B : Fp) : (Fp.bs (b :: l)).sep B = (B.out b ∧ (Fp.bs l).sep B) := by
  apply propext
  simp only [Fp.sep, Fp.mem, List.mem_cons, Fp.out]
  exact ⟨fun h => ⟨h b (.inl rfl), fun x hx => h x (.inr hx)⟩, fun h x hx => hx.elim (fun e => e ▸ h.1) (h.2 x)⟩
theorem sep_rcons (lo hi b : Nat) (l : List Nat) : (Fp.rng lo hi).sep (.bs (b :: l)) = ((Fp.rng lo hi).out b ∧ (Fp.rng lo hi).sep (.bs l)) := by
  apply propext
  simp only [Fp.sep, Fp.mem, List.mem_cons, Fp.out]
  exact ⟨fun h => ⟨fun hm => h b hm (.inl rfl), fun x hx hm => h x hx (.inr hm)⟩, fun h x hx hm => hm.elim (fun e => h.1 (e ▸ hx)) (h.2 x hx)⟩
theorem sep_rng {a b c d : Nat} (h : b ≤ c ∨ d ≤ a ∨ b ≤ a ∨ d ≤ c) : (Fp.rng a b).sep (.rng c d) = True := by
  simp only [Fp.sep, Fp.mem, eq_iff_iff, iff_true]; intro x; omega
theorem dget_nil (i : Nat) : dget i [] = none := rfl
theorem dget_cons (i k : Nat) (e : DEnt) (r : DLog) : dget i ((k, e) :: r) = if i = k then some e else dget i r := rfl
theorem dsep1_none (F W : Fp) : dsep1 F W none = True := rfl
theorem dsep1_some (F W : Fp) (F' W' : Fp) (lo hi : Nat) : dsep1 F W (some ⟨F', W', lo, hi⟩) = (F.sep W' ∧ F.sep (.rng lo hi) ∧ F'.sep W) := rfl
theorem dsep_nil (log : DLog) (F W : Fp) : dsep log F W [] = True := rfl
theorem dsep_cons (log : DLog) (F W : Fp) (i : Nat) (un : List Nat) : dsep log F W (i :: un) = (dsep1 F W (dget i log) ∧ dsep log F W un) := rfl
theorem dsep_idle (log : DLog) : ∀ un, dsep log (.bs []) (.bs []) un
  | [] => trivial
  | i :: un => by
    refine ⟨?_, dsep_idle log un⟩
    cases h : dget i log with
    | none => trivial
    | some e => exact ⟨by rw [sep_nil]; trivial, by rw [sep_nil]; trivial, by rw [sep_nil']; trivial⟩

/-- The two logs say the same. -/
def Covers (log : List LEnt) (d : DLog) : Prop := ∀ i, match dget i d with
  | none => (∀ b, ¬ (log.getD i (noEnt 0)).F b) ∧ (∀ b, ¬ (log.getD i (noEnt 0)).W b) ∧ (log.getD i (noEnt 0)).lo = (log.getD i (noEnt 0)).hi
  | some e => (∀ b, (log.getD i (noEnt 0)).F b → e.F.mem b) ∧ (∀ b, (log.getD i (noEnt 0)).W b → e.W.mem b) ∧ (log.getD i (noEnt 0)).lo = e.lo ∧ (log.getD i (noEnt 0)).hi = e.hi
theorem getD_noEnt {log : List LEnt} {i n m : Nat} (h : i < log.length) : log.getD i (noEnt n) = log.getD i (noEnt m) := by
  simp [List.getD_eq_getElem?_getD, h]
theorem free_noEnt {n : Nat} {F W : Nat → Prop} : (noEnt n).free F W := ⟨fun b hb => by
  rcases hb with hb | hb
  · exact hb.elim
  · have := hb.1; have := hb.2; simp only [noEnt] at *; omega, fun b hb => hb.elim⟩
/-- Being apart, by the data. -/
theorem Covers.free {log : List LEnt} {d : DLog} (hc : Covers log d) {n : Nat} {F W : Fp} {F' W' : Nat → Prop} (hF : ∀ b, F' b → F.mem b) (hW : ∀ b, W' b → W.mem b) : ∀ {un : List Nat}, dsep d F W un → ∀ i ∈ un, (log.getD i (noEnt n)).free F' W'
  | [], _, i, hi => by cases hi
  | k :: un, h, i, hi => by
    rcases List.mem_cons.1 hi with rfl | hi
    · have h1 := h.1
      have h2 := hc i
      by_cases hl : i < log.length
      · rw [getD_noEnt (m := 0) hl]
        cases hd : dget i d with
        | none =>
          rw [hd] at h2
          refine ⟨fun b hb => ?_, fun b hb => (h2.1 b hb).elim⟩
          rcases hb with hb | ⟨hb1, hb2⟩
          · exact (h2.2.1 b hb).elim
          · have := h2.2.2; omega
        | some e =>
          rw [hd] at h1 h2
          refine ⟨fun b hb hf => ?_, fun b hb hw => h1.2.2 b (h2.1 b hb) (hW b hw)⟩
          rcases hb with hb | ⟨hb1, hb2⟩
          · exact h1.1 b (hF b hf) (h2.2.1 b hb)
          · exact h1.2.1 b (hF b hf) ⟨by rw [← h2.2.2.1]; exact hb1, by rw [← h2.2.2.2]; exact hb2⟩
      · rw [List.getD_eq_getElem?_getD, List.getElem?_eq_none (by omega)]
        exact free_noEnt
    · exact Covers.free hc hF hW h.2 i hi
theorem Covers.nil : Covers [] [] := fun i => by simp [dget, noEnt]
/-- One more, of which nothing is noted. -/
theorem Covers.idle {log : List LEnt} {d : DLog} (hc : Covers log d) (hd : ∀ i, log.length ≤ i → dget i d = none) {e : LEnt} (h1 : ∀ b, ¬ e.F b) (h2 : ∀ b, ¬ e.W b) (h3 : e.lo = e.hi) : Covers (log ++ [e]) d := fun i => by
  by_cases hi : i < log.length
  · have := hc i
    rw [List.getD_eq_getElem?_getD, List.getElem?_append_left hi, ← List.getD_eq_getElem?_getD]; exact this
  · rw [hd i (by omega)]
    by_cases e' : i = log.length
    · subst e'
      simp [List.getD_eq_getElem?_getD, h1, h2, h3]
    · rw [List.getD_eq_getElem?_getD, List.getElem?_eq_none (by simp; omega)]
      exact ⟨fun _ h => h, fun _ h => h, rfl⟩
theorem Covers.push {log : List LEnt} {d : DLog} (hc : Covers log d) {e : LEnt} {e' : DEnt} (h1 : ∀ b, e.F b → e'.F.mem b) (h2 : ∀ b, e.W b → e'.W.mem b) (h3 : e.lo = e'.lo) (h4 : e.hi = e'.hi) : Covers (log ++ [e]) ((log.length, e') :: d) := fun i => by
  rw [dget_cons]
  by_cases e0 : i = log.length
  · subst e0
    rw [if_pos rfl]
    simp only [List.getD_eq_getElem?_getD, List.getElem?_append_right (Nat.le_refl _), Nat.sub_self, List.getElem?_cons_zero, Option.getD_some]
    exact ⟨h1, h2, h3, h4⟩
  · rw [if_neg e0]
    by_cases hi : i < log.length
    · have := hc i
      rw [List.getD_eq_getElem?_getD, List.getElem?_append_left hi, ← List.getD_eq_getElem?_getD]; exact this
    · have := hc i
      rw [List.getD_eq_getElem?_getD, List.getElem?_eq_none (by simp; omega)]
      rw [List.getD_eq_getElem?_getD, List.getElem?_eq_none (by omega)] at this
      exact this

/-- Of each operation the earlier ones that it is not ordered with, but those that ask the heap nothing, and of those that only ask it those that only ask it. -/
def unsAll (ops : Array Oper) : List (List Nat) :=
  let ms := masks ops.toList
  (List.range ops.size).map fun j => match ops[j]? with
    | some o => if pureOp o.op then [] else (List.range j).filter fun i => !((ms.getD j 0).testBit i) && (match ops[i]? with | some o' => !pureOp o'.op && !(readOp o'.op && readOp o.op) | none => false)
    | none => []
theorem unsAll_length (ops : Array Oper) : (unsAll ops).length = ops.size := by simp [unsAll]
theorem unsAll_ok (ops : Array Oper) : unsOk ops (unsAll ops) = true := by
  simp only [unsOk, List.all_eq_true, List.mem_range, Bool.or_eq_true]
  intro j hj i hi
  have hi' : i < ops.size := by omega
  have e : (unsAll ops).getD j [] = if pureOp ops[j].op then [] else (List.range j).filter fun i => !((masks ops.toList).getD j 0).testBit i && (match ops[i]? with | some o' => !pureOp o'.op && !(readOp o'.op && readOp ops[j].op) | none => false) := by
    simp [unsAll, List.getD_eq_getElem?_getD, hj]
  rw [Array.getElem?_eq_getElem hj, Array.getElem?_eq_getElem hi']
  simp only
  by_cases hp : pureOp ops[j].op = true
  · exact .inl (.inr hp)
  · rw [e, if_neg hp]
    by_cases h1 : pre ops j i = true
    · exact .inl (.inl (.inl (.inl h1)))
    · by_cases h2 : pureOp ops[i].op = true
      · exact .inl (.inl (.inr h2))
      · by_cases h3 : (readOp ops[i].op && readOp ops[j].op) = true
        · exact .inr h3
        · refine .inl (.inl (.inl (.inr ?_)))
          rw [List.contains_iff_mem, List.mem_filter, List.mem_range]
          refine ⟨hi, ?_⟩
          have h1' : ((masks ops.toList).getD j 0).testBit i = false := by simpa [pre] using h1
          rw [h1', Array.getElem?_eq_getElem hi']
          simp only [show pureOp ops[i].op = false by simpa using h2, show (readOp ops[i].op && readOp ops[j].op) = false by simpa using h3]; rfl
end Go.Proofs.YtkcahnefekkfaaaAbs

namespace Go.Proofs.YtkcahnefekkfaaaAbs
open Go Go.RowKit
variable [Base]

/-- Registers that are known. -/
abbrev RL := List (Tmp × Value)
def look (t : Tmp) : RL → Value
  | [] => junk
  | (k, v) :: r => if t = k then v else look t r
def push (d : Option Tmp) (v : Value) (l : RL) : RL := match d with
  | some d => (d, v) :: l
  | none => l
/-- Of all registers these alone. -/
def keepL (rs : List Tmp) (l : RL) : RL := rs.map fun t => (t, look t l)
abbrev regs (l : RL) : Regs := fun t => look t l

inductive RG where
  | none
  | some (t : Tmp) (want : Bool)
  | never
structure ROp where
  dst : Option Tmp
  guard : RG
  fl : Bool
  ty : TypeId
  op : Op
/-- One of a region's operations that are not all ordered: its place, and the earlier ones that it is not ordered with. -/
structure DOp where
  dst : Option Tmp
  guard : RG
  ty : TypeId
  op : Op
  i : Nat
  un : List Nat
inductive RCode where
  | skip
  | region (ops : List ROp)
  | regionD (ops : List DOp)
  | seq (a b : RCode)
  | cond (c : Operand) (thn els : RCode)
  | block (id : Nat) (body : RCode)
  | loop (rs : List Tmp) (body : RCode)
  | exit (id : Nat)
  | ret
  | keep (rs : List Tmp) (c : RCode)

def rguard (ops : Array Oper) (o : Oper) : RG := match o.guard with
  | none => .none
  | some (j, want) => match (ops[j]?).bind (·.dst) with
    | none => .never
    | some d => .some d want
def rops (ops : Array Oper) (draw : Bool) : List (Oper × Nat) → List ROp
  | [] => []
  | (o, i) :: rest => ⟨o.dst, rguard ops o, !draw || ordB ops i, o.type, o.op⟩ :: rops ops draw rest
def dops (ops : Array Oper) : Nat → List (Oper × List Nat) → List DOp
  | _, [] => []
  | i, (o, un) :: rest => ⟨o.dst, rguard ops o, o.type, o.op, i, un⟩ :: dops ops (i + 1) rest
/-- The code, and nothing left out of any register. Of the regions 'ids' the operations are not all ordered. -/
def comp (ids : List Nat) : Code → RCode
  | .region id ops draw => if (draw && ids.contains id) = true then .regionD (dops ops 0 (ops.toList.zip (unsAll ops))) else .region (rops ops draw ops.toList.zipIdx)
  | .seq a b => .seq (comp ids a) (comp ids b)
  | .cond c a b => .cond c (comp ids a) (comp ids b)
  | .block id b => .block id (comp ids b)
  | .loop b => .loop [] (comp ids b)
  | .exit id => .exit id
  | .ret => .ret
  | _ => .skip
def covered : Code → Bool
  | .region _ _ _ => true
  | .seq a b => covered a && covered b
  | .cond _ a b => covered a && covered b
  | .block _ b => covered b
  | .loop b => covered b
  | .exit _ => true
  | .ret => true
  | .skip => true
  | .label _ => true
  | _ => false
/-- Registers' notes struck. -/
def strike : RCode → RCode
  | .seq a b => .seq (strike a) (strike b)
  | .cond c a b => .cond c (strike a) (strike b)
  | .block id b => .block id (strike b)
  | .loop _ b => .loop [] (strike b)
  | .keep _ c => strike c
  | c => c

/-! ### Walking -/
abbrev RPost := Exit → RL → AMem → Nat → Prop

def rval (dst : Option Tmp) (K : RL → AMem → Nat → Prop) (l : RL) (g : AMem) (n : Nat) : Option Value → Prop
  | some v => K (push dst v l) g n
  | none => False
def reff (may : Nat → Prop) (dst : Option Tmp) (fl : Bool) (K : RL → AMem → Nat → Prop) (l : RL) (g : AMem) (n : Nat) : Option (Value × Eff) → Prop
  | some (v, .none) => K (push dst v l) g n
  | some (v, .new o) => fl = true ∧ K (push dst v l) (gset g n (some o)) (n + 1)
  | some (v, .put i o) => fl = true ∧ may i ∧ K (push dst v l) (gset g i (some o)) n
  | some (v, .move i o) => fl = true ∧ may i ∧ K (push dst v l) (gset (gset g i none) n (some o)) (n + 1)
  | none => False
def rcall (P : Program) (may : Nat → Prop) (f : FuncId) (args : List Value) (dst : Option Tmp) (fl : Bool) (K : RL → AMem → Nat → Prop) (l : RL) (g : AMem) (n : Nat) : Prop :=
  goFn P f = true ∧ ∃ t v g' n', FnC P f args g n t v g' n' ∧ (∀ i, t i → may i) ∧ (fl = true ∨ g' = g ∧ n' = n) ∧ K (push dst v l) g' n'
/-- One operation. -/
def rdo (P : Program) (may : Nat → Prop) (dst : Option Tmp) (fl : Bool) (ty : TypeId) (op : Op) (K : RL → AMem → Nat → Prop) (l : RL) (g : AMem) (n : Nat) : Prop :=
  match aCall (regs l) op with
  | some (f, args) => rcall P may f args dst fl K l g n
  | none => reff may dst fl K l g n (aOp P ty (aEval (regs l)) g n op)
def rgd (v : Value) (want : Bool) (yes no : Prop) : Prop := match v with
  | .bool b => (b = want → yes) ∧ (b = (!want) → no)
  | .tuple _ => no
  | _ => False
def rcond (v : Value) (yes no : Prop) : Prop := match v with
  | .bool b => (b = true → yes) ∧ (b = false → no)
  | _ => False
def rstep (P : Program) (may : Nat → Prop) (o : ROp) (K : RL → AMem → Nat → Prop) (l : RL) (g : AMem) (n : Nat) : Prop :=
  match o.guard with
  | .none => rdo P may o.dst o.fl o.ty o.op K l g n
  | .some t want => rgd (look t l) want (rdo P may o.dst o.fl o.ty o.op K l g n) (K (push o.dst undef l) g n)
  | .never => K (push o.dst undef l) g n
def rrun (P : Program) (may : Nat → Prop) : List ROp → (RL → AMem → Nat → Prop) → RL → AMem → Nat → Prop
  | [], Q, l, g, n => Q l g n
  | o :: rest, Q, l, g, n => rstep P may o (rrun P may rest Q) l g n

/-- A region of which the operations are not all ordered: what each one asks and does is noted. -/
def deff (may : Nat → Prop) (dst : Option Tmp) (i : Nat) (un : List Nat) (fp : List Nat) (K : DLog → RL → AMem → Nat → Prop) (log : DLog) (l : RL) (g : AMem) (n : Nat) : Option (Value × Eff) → Prop
  | some (v, .none) => dsep log (.bs fp) (.bs []) un ∧ K ((i, ⟨.bs fp, .bs [], n, n⟩) :: log) (push dst v l) g n
  | some (v, .new o) => dsep log (.bs fp) (.bs []) un ∧ K ((i, ⟨.bs fp, .bs [], n, n + 1⟩) :: log) (push dst v l) (gset g n (some o)) (n + 1)
  | some (v, .put b o) => may b ∧ dsep log (.bs fp) (.bs [b]) un ∧ K ((i, ⟨.bs fp, .bs [b], n, n⟩) :: log) (push dst v l) (gset g b (some o)) n
  | some (v, .move b o) => may b ∧ dsep log (.bs fp) (.bs [b]) un ∧ K ((i, ⟨.bs fp, .bs [b], n, n + 1⟩) :: log) (push dst v l) (gset (gset g b none) n (some o)) (n + 1)
  | none => False
def dcall (P : Program) (may : Nat → Prop) (f : FuncId) (args : List Value) (dst : Option Tmp) (i : Nat) (un : List Nat) (K : DLog → RL → AMem → Nat → Prop) (log : DLog) (l : RL) (g : AMem) (n : Nat) : Prop :=
  goFn P f = true ∧ ∃ (F W : Fp) (v : Value) (h' : AMem) (n' : Nat), FnC P f args (res F.mem g) n W.mem v h' n' ∧ (∀ x, W.mem x → F.mem x ∧ may x ∧ g x ≠ none) ∧ (∀ x, F.mem x → x < n) ∧ n ≤ n' ∧ (∀ x, n' ≤ x → h' x = none) ∧
    dsep log F W un ∧ K ((i, ⟨F, W, n, n'⟩) :: log) (push dst v l) (laid g h' W.mem n) n'
def opFp (l : RL) (op : Op) : List Nat := op.operands.toList.flatMap fun x => fpV (aEval (regs l) x)
def ddo (P : Program) (may : Nat → Prop) (dst : Option Tmp) (i : Nat) (un : List Nat) (ty : TypeId) (op : Op) (K : DLog → RL → AMem → Nat → Prop) (log : DLog) (l : RL) (g : AMem) (n : Nat) : Prop :=
  match aCall (regs l) op with
  | some (f, args) => dcall P may f args dst i un K log l g n
  | none => if pureOp op = true then reff may dst true (K log) l g n (aOp P ty (aEval (regs l)) g n op) else deff may dst i un (opFp l op) K log l g n (aOp P ty (aEval (regs l)) g n op)
def dstep (P : Program) (may : Nat → Prop) (o : DOp) (K : DLog → RL → AMem → Nat → Prop) (log : DLog) (l : RL) (g : AMem) (n : Nat) : Prop :=
  match o.guard with
  | .none => ddo P may o.dst o.i o.un o.ty o.op K log l g n
  | .some t want => rgd (look t l) want (ddo P may o.dst o.i o.un o.ty o.op K log l g n) (K log (push o.dst undef l) g n)
  | .never => K log (push o.dst undef l) g n
def drun (P : Program) (may : Nat → Prop) : List DOp → (RL → AMem → Nat → Prop) → DLog → RL → AMem → Nat → Prop
  | [], Q, log, l, g, n => Q l g n
  | o :: rest, Q, log, l, g, n => dstep P may o (drun P may rest Q) log l g n

def Exit.thenR (next : RL → AMem → Nat → Prop) (Q : RPost) : RPost
  | .normal, T, g, n => next T g n
  | e, T, g, n => Q e T g n
def Exit.inBlockR (id : Nat) (Q : RPost) : RPost
  | .exit id', T, g, n => if id' = id then Q .normal T g n else Q (.exit id') T g n
  | e, T, g, n => Q e T g n
def rrounds (rs : List Tmp) (body : RPost → RL → AMem → Nat → Prop) (Q : RPost) : Nat → RL → AMem → Nat → Prop
  | 0, _, _, _ => False
  | k + 1, l, g, n => body (Exit.thenR (rrounds rs body Q k) Q) (keepL rs l) g n
def rwp (P : Program) (may : Nat → Prop) : RCode → RPost → RL → AMem → Nat → Prop
  | .skip, Q, l, g, n => Q .normal l g n
  | .region ops, Q, l, g, n => rrun P may ops (Q .normal) l g n
  | .regionD ops, Q, l, g, n => drun P may ops (Q .normal) [] l g n
  | .seq a b, Q, l, g, n => rwp P may a (Exit.thenR (rwp P may b Q) Q) l g n
  | .cond c x y, Q, l, g, n => rcond (aEval (regs l) c) (rwp P may x Q l g n) (rwp P may y Q l g n)
  | .block id body, Q, l, g, n => rwp P may body (Exit.inBlockR id Q) l g n
  | .loop rs body, Q, l, g, n => ∃ k, rrounds rs (rwp P may body) Q k l g n
  | .exit id, Q, l, g, n => Q (.exit id) l g n
  | .ret, Q, l, g, n => Q .ret l g n
  | .keep rs c, Q, l, g, n => rwp P may c Q (keepL rs l) g n

section
variable {P : Program} {may : Nat → Prop}
theorem regs_push (d : Option Tmp) (v : Value) (l : RL) : regs (push d v l) = upd (regs l) d v := by
  cases d with
  | none => rfl
  | some d => funext t; simp [regs, push, upd, look]

theorem reff_spec {dst : Option Tmp} {fl : Bool} {K : RL → AMem → Nat → Prop} {l : RL} {g : AMem} {n : Nat} {r : Option (Value × Eff)} (h : reff may dst fl K l g n r) :
    ∃ v ε, r = some (v, ε) ∧ (∀ i, ε.touch i → may i) ∧ (fl = true ∨ ε = .none) ∧ K (push dst v l) (ε.mem g n) (ε.next n) := by
  match r with
  | none => exact h.elim
  | some (v, .none) => exact ⟨v, _, rfl, fun _ h => h.elim, .inr rfl, h⟩
  | some (v, .new o) => exact ⟨v, _, rfl, fun _ h => h.elim, .inl h.1, h.2⟩
  | some (v, .put i o) => exact ⟨v, _, rfl, fun j hj => by cases hj; exact h.2.1, .inl h.1, h.2.2⟩
  | some (v, .move i o) => exact ⟨v, _, rfl, fun j hj => by cases hj; exact h.2.1, .inl h.1, h.2.2⟩

theorem rrun_aRun (ops : Array Oper) (draw : Bool) {Q : RL → AMem → Nat → Prop} : ∀ (l : List (Oper × Nat)) (s : RL) (g : AMem) (n : Nat), rrun P may (rops ops draw l) Q s g n →
    aRun P may ops draw (fun T g n => ∃ s, T = regs s ∧ Q s g n) l (regs s) g n
  | [], s, g, n, h => ⟨s, rfl, h⟩
  | (o, i) :: rest, s, g, n, h => by
    simp only [rops, rrun, rstep] at h
    have flag : ∀ {b : Bool}, (!draw || ordB ops i) = b → b = true → draw = false ∨ ordB ops i = true := fun e hb => by
      subst e; simpa using hb
    have doIt : rdo P may o.dst (!draw || ordB ops i) o.type o.op (rrun P may (rops ops draw rest) Q) s g n →
        aStep P may ops draw i o (regs s) g n fun v g' n' => aRun P may ops draw (fun T g n => ∃ s, T = regs s ∧ Q s g n) rest (upd (regs s) o.dst v) g' n' := fun h => by
      unfold rdo at h
      unfold aStep
      split at h
      · rename_i f args hc
        simp only [hc]
        obtain ⟨h1, t, v, g', n', h2, h3, h4, h5⟩ := h
        exact ⟨h1, t, v, g', n', h2, h3, h4.imp (flag rfl) id, by rw [← regs_push]; exact rrun_aRun ops draw rest _ _ _ h5⟩
      · rename_i hc
        simp only [hc]
        obtain ⟨v, ε, h1, h2, h3, h4⟩ := reff_spec h
        exact ⟨v, ε, h1, h2, h3.imp (flag rfl) id, by rw [← regs_push]; exact rrun_aRun ops draw rest _ _ _ h4⟩
    have skipIt : rrun P may (rops ops draw rest) Q (push o.dst undef s) g n → aRun P may ops draw (fun T g n => ∃ s, T = regs s ∧ Q s g n) rest (upd (regs s) o.dst undef) g n := fun h => by
      rw [← regs_push]; exact rrun_aRun ops draw rest _ _ _ h
    unfold rguard at h
    simp only [aRun, aWanted]
    cases hg : o.guard with
    | none =>
      simp only [hg] at h ⊢
      exact ⟨true, rfl, fun _ => doIt h, (fun e => by cases e)⟩
    | some p =>
      obtain ⟨j, want⟩ := p
      simp only [hg] at h ⊢
      cases hd : (ops[j]?).bind (·.dst) with
      | none =>
        simp only [hd] at h ⊢
        exact ⟨false, rfl, (fun e => by cases e), fun _ => skipIt h⟩
      | some d =>
        simp only [hd] at h ⊢
        unfold rgd at h
        split at h
        · rename_i b hb
          have hb' : regs s d = .bool b := hb
          simp only [hb']
          refine ⟨b == want, rfl, fun e => doIt (h.1 (by simpa using e)), fun e => skipIt (h.2 (by cases b <;> cases want <;> simp_all))⟩
        · rename_i vs hb
          have hb' : regs s d = .tuple vs := hb
          simp only [hb']
          exact ⟨false, rfl, (fun e => by cases e), fun _ => skipIt h⟩
        · exact h.elim

theorem deff_spec {dst : Option Tmp} {i : Nat} {un fp : List Nat} {K : DLog → RL → AMem → Nat → Prop} {log : DLog} {l : RL} {g : AMem} {n : Nat} {r : Option (Value × Eff)} (h : deff may dst i un fp K log l g n r) :
    ∃ v ε W, r = some (v, ε) ∧ (∀ i, ε.touch i → may i ∧ Fp.mem W i) ∧ dsep log (.bs fp) W un ∧ K ((i, ⟨.bs fp, W, n, ε.next n⟩) :: log) (push dst v l) (ε.mem g n) (ε.next n) := by
  match r with
  | none => exact h.elim
  | some (v, .none) => exact ⟨v, _, _, rfl, fun _ h => h.elim, h.1, h.2⟩
  | some (v, .new o) => exact ⟨v, _, _, rfl, fun _ h => h.elim, h.1, h.2⟩
  | some (v, .put i o) => exact ⟨v, _, _, rfl, fun j hj => by cases hj; exact ⟨h.1, by simp [Fp.mem]⟩, h.2.1, h.2.2⟩
  | some (v, .move i o) => exact ⟨v, _, _, rfl, fun j hj => by cases hj; exact ⟨h.1, by simp [Fp.mem]⟩, h.2.1, h.2.2⟩

theorem drun_lRun (ops : Array Oper) {Q : RL → AMem → Nat → Prop} : ∀ (l : List (Oper × List Nat)) (i : Nat) (log : List LEnt) (d : DLog) (s : RL) (g : AMem) (n : Nat), log.length = i → Covers log d → (∀ k, i ≤ k → dget k d = none) → drun P may (dops ops i l) Q d s g n →
    lRun P may ops (fun T g n => ∃ s, T = regs s ∧ Q s g n) l log (regs s) g n
  | [], i, log, d, s, g, n, _, _, _, h => ⟨s, rfl, h⟩
  | (o, un) :: rest, i, log, d, s, g, n, hl, hc, hd, h => by
    simp only [dops, drun, dstep] at h
    have doIt : ddo P may o.dst i un o.type o.op (drun P may (dops ops (i + 1) rest) Q) d s g n →
        lStep P may un log o (regs s) g n fun e v g' n' => lRun P may ops (fun T g n => ∃ s, T = regs s ∧ Q s g n) rest (log ++ [e]) (upd (regs s) o.dst v) g' n' := fun h => by
      unfold ddo at h
      unfold lStep
      split at h
      · rename_i f args hcall
        simp only [hcall]
        obtain ⟨h1, F, W, v, h', n', h2, h3, h4, h5, h6, h7, h8⟩ := h
        refine ⟨h1, F.mem, W.mem, v, h', n', h2, h3, h4, h5, h6, hc.free (fun _ h => h) (fun _ h => h) h7, ?_⟩
        rw [← regs_push]
        exact drun_lRun ops rest (i + 1) _ _ _ _ _ (by simp [hl]) (by subst hl; exact hc.push (fun _ h => h) (fun _ h => h) rfl rfl) (fun k hk => by rw [dget_cons, if_neg (by omega)]; exact hd k (by omega)) h8
      · rename_i hcall
        simp only [hcall]
        split at h
        · rename_i hp
          obtain ⟨v, ε, h1, h2, h3, h4⟩ := reff_spec h
          obtain ⟨rfl, _⟩ := aOp_pure hp h1
          have hF : ∀ b, ¬ fpO o (regs s) g b := fun b hb => by
            have := hb.1
            rw [hp] at this; cases this
          refine ⟨v, .none, h1, fun _ h => h.elim, ?_, ?_⟩
          · exact hc.free (F := .bs []) (W := .bs []) (fun b hb => (hF b hb).elim) (fun b hb => hb.elim) (dsep_idle d un)
          · rw [← regs_push]
            exact drun_lRun ops rest (i + 1) _ _ _ _ _ (by simp [hl]) (hc.idle (fun k hk => hd k (by omega)) hF (fun _ h => h) rfl) (fun k hk => hd k (by omega)) h4
        · rename_i hp
          obtain ⟨v, ε, W, h1, h2, h3, h4⟩ := deff_spec h
          have hF : ∀ b, fpO o (regs s) g b → (Fp.bs (opFp s o.op)).mem b := fun b hb => by
            obtain ⟨_, ⟨x, hx, hb⟩, _⟩ := hb
            show b ∈ opFp s o.op
            unfold opFp
            rw [List.mem_flatMap]
            exact ⟨x, by simpa using hx, hb⟩
          refine ⟨v, ε, h1, fun x hx => (h2 x hx).1, ?_, ?_⟩
          · exact hc.free hF (fun b hb => (h2 b hb).2) h3
          · rw [← regs_push]
            exact drun_lRun ops rest (i + 1) _ _ _ _ _ (by simp [hl]) (by subst hl; exact hc.push hF (fun b hb => (h2 b hb).2) rfl rfl) (fun k hk => by rw [dget_cons, if_neg (by omega)]; exact hd k (by omega)) h4
    have skipIt : drun P may (dops ops (i + 1) rest) Q d (push o.dst undef s) g n → lRun P may ops (fun T g n => ∃ s, T = regs s ∧ Q s g n) rest (log ++ [noEnt n]) (upd (regs s) o.dst undef) g n := fun h => by
      rw [← regs_push]
      exact drun_lRun ops rest (i + 1) _ _ _ _ _ (by simp [hl]) (hc.idle (fun k hk => hd k (by omega)) (fun _ h => h) (fun _ h => h) rfl) (fun k hk => hd k (by omega)) h
    unfold rguard at h
    simp only [lRun, aWanted]
    cases hg : o.guard with
    | none =>
      simp only [hg] at h ⊢
      exact ⟨true, rfl, fun _ => doIt h, (fun e => by cases e)⟩
    | some p =>
      obtain ⟨j, want⟩ := p
      simp only [hg] at h ⊢
      cases hd' : (ops[j]?).bind (·.dst) with
      | none =>
        simp only [hd'] at h ⊢
        exact ⟨false, rfl, (fun e => by cases e), fun _ => skipIt h⟩
      | some dd =>
        simp only [hd'] at h ⊢
        unfold rgd at h
        split at h
        · rename_i b hb
          have hb' : regs s dd = .bool b := hb
          simp only [hb']
          refine ⟨b == want, rfl, fun e => doIt (h.1 (by simpa using e)), fun e => skipIt (h.2 (by cases b <;> cases want <;> simp_all))⟩
        · rename_i vs hb
          have hb' : regs s dd = .tuple vs := hb
          simp only [hb']
          exact ⟨false, rfl, (fun e => by cases e), fun _ => skipIt h⟩
        · exact h.elim

/-- Less is known. -/
theorem cfg_less {X : Ctx} {l : RL} {g : AMem} {n : Nat} {ρ : Nat → Option Nat} {a : Act} {w : World} (h : Cfg X (regs l) g n ρ a w) (rs : List Tmp) : Cfg X (regs (keepL rs l)) g n ρ a w := by
  refine ⟨h.size, fun t => ?_, h.rep, h.le, h.ext, h.frame, h.fresh, h.keep, h.defers⟩
  have : regs (keepL rs l) t = regs l t ∨ regs (keepL rs l) t = junk := by
    simp only [regs, keepL]
    induction rs with
    | nil => exact .inr rfl
    | cons r rs ih =>
      simp only [List.map_cons, look]
      split
      · rename_i e; subst e; exact .inl rfl
      · exact ih
  rcases this with e | e
  · rw [e]; exact h.regs t
  · rw [e]; exact .junk _

def liftR (X : Ctx) (Q : RPost) (e : Exit) (a : Act) (w : World) : Prop := ∃ l g n ρ, Cfg X (regs l) g n ρ a w ∧ Q e l g n

/-- What fits: 'rc' is the code 'c', registers' notes aside. -/
theorem rwp_sound {ids : List Nat} {X : Ctx} (hm : X.P.follows .mixedOrders = true) : ∀ (rc : RCode) (c : Code) , strike rc = comp ids c → covered c = true → codeOk X.nt c = true →
    ∀ (Q : RPost) (l : RL) (g : AMem) (n : Nat), rwp X.P X.may rc Q l g n → ∀ ρ a w, Cfg X (regs l) g n ρ a w → c.wp X.P (liftR X Q) a w := by
  intro rc
  induction rc with
  | keep rs rc ih =>
    intro c hs hcv hok Q l g n h ρ a w hc
    exact ih c hs hcv hok Q _ g n h ρ a w (cfg_less hc rs)
  | skip =>
    intro c hs hcv hok Q l g n h ρ a w hc
    cases c <;> first | (simp [strike, comp] at hs; done) | (simp only [strike, comp] at hs; split at hs <;> cases hs; done) | (simp [covered] at hcv; done) | exact wp_skip ⟨l, g, n, ρ, hc, h⟩ | exact wp_label ⟨l, g, n, ρ, hc, h⟩
  | ret =>
    intro c hs hcv hok Q l g n h ρ a w hc
    cases c <;> first | (simp [strike, comp] at hs; done) | (simp only [strike, comp] at hs; split at hs <;> cases hs; done) | exact wp_ret ⟨l, g, n, ρ, hc, h⟩
  | exit id =>
    intro c hs hcv hok Q l g n h ρ a w hc
    cases c <;> first | (simp [strike, comp] at hs; done) | (simp only [strike, comp] at hs; split at hs <;> cases hs; done) | skip
    simp only [strike, comp, RCode.exit.injEq] at hs
    subst hs
    exact wp_exit ⟨l, g, n, ρ, hc, h⟩
  | region ops =>
    intro c hs hcv hok Q l g n h ρ a w hc
    cases c with
    | region id ops' draw =>
      simp only [strike, comp] at hs
      split at hs
      · cases hs
      simp only [RCode.region.injEq] at hs
      subst hs
      have := awp_sound (X := X) hm (.region id ops' draw) (fun e T g n => ∃ s, T = regs s ∧ Q e s g n) (regs l) g n hok (rrun_aRun ops' draw _ l g n h) ρ a w hc
      refine wp_mono this fun e a w hl => ?_
      obtain ⟨T, g, n, ρ, hc, s, rfl, hq⟩ := hl
      exact ⟨s, g, n, ρ, hc, hq⟩
    | _ => first | (simp [strike, comp] at hs; done) | (simp only [strike, comp] at hs; split at hs <;> cases hs)
  | regionD ops =>
    intro c hs hcv hok Q l g n h ρ a w hc
    cases c with
    | region id ops' draw =>
      simp only [strike, comp] at hs
      split at hs
      · rename_i hdr
        simp only [RCode.regionD.injEq] at hs
        subst hs
        simp only [codeOk, Bool.and_eq_true] at hok hdr
        have hdr1 : draw = true := hdr.1
        subst hdr1
        have hdok : drawOk ops' = true := by simpa using hok.2
        refine wp_lRun hm hdok (region_dst hok.1) (unsAll_ok ops') (unsAll_length ops') (drun_lRun ops' _ 0 [] [] l g n rfl Covers.nil (fun _ _ => rfl) h) hc fun T g n ρ a w hc hk => ?_
        obtain ⟨s, rfl, hq⟩ := hk
        exact ⟨s, g, n, ρ, hc, hq⟩
      · cases hs
    | _ => first | (simp [strike, comp] at hs; done) | (simp only [strike, comp] at hs; split at hs <;> cases hs)
  | seq x y ihx ihy =>
    intro c hs hcv hok Q l g n h ρ a w hc
    cases c with
    | seq cx cy =>
      simp only [strike, comp, RCode.seq.injEq] at hs
      simp only [covered, codeOk, Bool.and_eq_true] at hcv hok
      refine wp_seq (wp_mono (ihx cx hs.1 hcv.1 hok.1 _ l g n h ρ a w hc) fun e a w hl => ?_)
      obtain ⟨l, g, n, ρ, hc, hq⟩ := hl
      cases e with
      | normal => exact ihy cy hs.2 hcv.2 hok.2 Q l g n hq ρ a w hc
      | _ => exact ⟨l, g, n, ρ, hc, hq⟩
    | _ => first | (simp [strike, comp] at hs; done) | (simp only [strike, comp] at hs; split at hs <;> cases hs)
  | cond o x y ihx ihy =>
    intro c hs hcv hok Q l g n h ρ a w hc
    cases c with
    | cond o' cx cy =>
      simp only [strike, comp, RCode.cond.injEq] at hs
      obtain ⟨rfl, hx, hy⟩ := hs
      simp only [covered, codeOk, Bool.and_eq_true] at hcv hok
      have hv := hc.eval o
      simp only [rwp] at h
      unfold rcond at h
      split at h
      · rename_i b hb
        rw [hb] at hv
        have hcv' : a.eval o = .bool b := by cases hcv : a.eval o <;> rw [hcv] at hv <;> cases hv; rfl
        refine wp_cond hcv' ?_
        cases b with
        | true => exact ihx cx hx hcv.1 hok.1 Q l g n (h.1 rfl) ρ a w hc
        | false => exact ihy cy hy hcv.2 hok.2 Q l g n (h.2 rfl) ρ a w hc
      · exact h.elim
    | _ => first | (simp [strike, comp] at hs; done) | (simp only [strike, comp] at hs; split at hs <;> cases hs)
  | block id b ih =>
    intro c hs hcv hok Q l g n h ρ a w hc
    cases c with
    | block id' cb =>
      simp only [strike, comp, RCode.block.injEq] at hs
      obtain ⟨rfl, hb⟩ := hs
      simp only [covered, codeOk] at hcv hok
      refine wp_block (wp_mono (ih cb hb hcv hok _ l g n h ρ a w hc) fun e a w hl => ?_)
      obtain ⟨l, g, n, ρ, hc, hq⟩ := hl
      cases e with
      | exit id' =>
        simp only [Exit.inBlockR] at hq
        simp only [Exit.inBlock]
        split
        · rename_i e; rw [if_pos e] at hq; exact ⟨l, g, n, ρ, hc, hq⟩
        · rename_i e; rw [if_neg e] at hq; exact ⟨l, g, n, ρ, hc, hq⟩
      | _ => exact ⟨l, g, n, ρ, hc, hq⟩
    | _ => first | (simp [strike, comp] at hs; done) | (simp only [strike, comp] at hs; split at hs <;> cases hs)
  | loop rs b ih =>
    intro c hs hcv hok Q l g n h ρ a w hc
    cases c with
    | loop cb =>
      simp only [strike, comp, RCode.loop.injEq, true_and] at hs
      simp only [covered, codeOk] at hcv hok
      obtain ⟨k, hk⟩ := h
      refine wp_loop_rounds k ?_
      induction k generalizing l g n ρ a w with
      | zero => exact hk.elim
      | succ k ihk =>
        rw [rounds_succ]
        refine wp_mono (ih cb hs hcv hok _ _ g n hk ρ a w (cfg_less hc rs)) fun e a w hl => ?_
        obtain ⟨l, g, n, ρ, hc, hq⟩ := hl
        cases e with
        | normal => exact ihk l g n ρ a w hc hq
        | _ => exact ⟨l, g, n, ρ, hc, hq⟩
    | _ => first | (simp [strike, comp] at hs; done) | (simp only [strike, comp] at hs; split at hs <;> cases hs)
end
end Go.Proofs.YtkcahnefekkfaaaAbs

namespace Go.Proofs.YtkcahnefekkfaaaAbs
open Go Go.RowKit
variable [Base]

/-- What stands of a function's text: the code made ready, where its results lie. -/
structure FnT (P : Program) (f : FuncId) (rc : RCode) (rs : List ResultVar) (na : Nat) : Prop where
  ex : ∃ ids fn c, P.funcs[f]? = some fn ∧ fn.body = some c ∧ strike rc = comp ids c ∧ covered c = true ∧ codeOk fn.ntmps c = true ∧ fn.results.toList = rs ∧ na ≤ fn.ntmps
  go : goFn P f = true

def argL : Nat → List Value → RL
  | _, [] => []
  | i, v :: vs => (i, v) :: argL (i + 1) vs
theorem argL_get : ∀ (vs : List Value) (i t : Nat), look t (argL i vs) = if i ≤ t ∧ t < i + vs.length then vs.getD (t - i) undef else junk
  | [], i, t => by simp [argL, look]; intro h1 h2; omega
  | v :: vs, i, t => by
    simp only [argL, look, argL_get vs (i + 1) t]
    by_cases e : t = i
    · subst e; simp
    · rw [if_neg e]
      by_cases h : i + 1 ≤ t ∧ t < i + 1 + vs.length
      · rw [if_pos h, if_pos (by simp; omega)]
        rw [show t - i = t - (i + 1) + 1 by omega]
        simp
      · rw [if_neg h, if_neg (by simp; omega)]

/-- A function's end. -/
def RDone (P : Program) (rs : List ResultVar) (n : Nat) (g0 : AMem) (v : Value) (g' : AMem) (n' : Nat) : RPost := fun e l g1 n1 =>
  (e = .normal ∨ e = .ret) ∧ ∃ v1, aResults P g1 (regs l) rs = some v1 ∧ (Weak n g0 v1 g1 v g' n' ∨ v1 = v ∧ g1 = g' ∧ n1 = n')

/-- **A contract out of a walk.** -/
theorem fnC_of_rwp {P : Program} {f : FuncId} {rc : RCode} {rs : List ResultVar} {na : Nat} (ht : FnT P f rc rs na) (hm : P.follows .mixedOrders = true) {args : List Value} (hna : args.length = na)
    {g : AMem} {n : Nat} {touch : Nat → Prop} {v : Value} {g' : AMem} {n' : Nat}
    (h : (∀ i, g i ≠ none → i < n) → rwp P (fun i => i < n → touch i) rc (RDone P rs n g v g' n') (argL 0 args) g n) : FnC P f args g n touch v g' n' := by
  obtain ⟨ids, fn, c, hf, hb, hstr, hcov, hok, rfl, hnt⟩ := ht.ex
  intro ρ w cargs hbase hrep hargs
  have hdom : ∀ i, g i ≠ none → i < n := fun i hi => by
    cases hgi : g i with
    | none => exact absurd hgi hi
    | some o => exact hrep.ltg hgi
  let X : Ctx := ⟨P, fn.ntmps, ρ, g, n, touch, w, hbase⟩
  have hsize : cargs.size = args.length := by rw [hargs.len]; simp
  have hc : Cfg X (regs (argL 0 args)) g n ρ { tmps := cargs ++ Array.replicate (fn.ntmps - cargs.size) undef, defers := [] } w := by
    refine ⟨by simp [X]; omega, fun t => ?_, hrep, Nat.le_refl _, fun _ _ => rfl, Frame0.refl _ _, fun j b hj hb => ?_, fun _ _ h => h, rfl⟩
    · rw [regs, argL_get]
      by_cases ht : t < args.length
      · rw [if_pos (by omega)]
        have := hargs.at_ t ht (by simp; omega)
        have e1 : args.getD (t - 0) undef = args[t] := by simp [List.getD_eq_getElem?_getD, ht]
        have e2 : (cargs ++ Array.replicate (fn.ntmps - cargs.size) undef).getD t undef = cargs.toList[t]'(by simp; omega) := by
          rw [Array.getD_eq_getD_getElem?, Array.getElem?_append_left (by omega), Array.getElem?_eq_getElem (by omega)]
          simp
        rw [e1, e2]; exact this
      · rw [if_neg (by omega)]; exact .junk _
    · rw [hrep.dom j hj] at hb; cases hb
  have hwp := rwp_sound (X := X) hm rc c hstr hcov hok _ _ g n (h hdom) ρ _ w hc
  refine CallsX.of (extFn_body hf hb) <| calls_of_wp hf hb (wp_mono hwp fun e a w' hl => ?_)
  obtain ⟨l, g1, n1, ρ1, hc1, he, v1, hres, hweak⟩ := hl
  obtain ⟨cv, hr1, hr2⟩ := aResults_sound hc1 hres
  obtain ⟨ρ', hT⟩ : ∃ ρ', Trans touch ρ g n w v g' n' cv w' ρ' := by
    rcases hweak with hweak | ⟨rfl, rfl, rfl⟩
    · exact weak_trans hbase hrep hc1 hr2 hweak
    · exact ⟨ρ1, hr2, hc1.rep, hc1.le, hc1.ext, hc1.frame, hc1.fresh, hc1.keep⟩
  rcases he with rfl | rfl
  · exact ⟨hc1.defers, cv, hr1, cv, ρ', rfl, hT⟩
  · exact ⟨hc1.defers, cv, hr1, cv, ρ', rfl, hT⟩
end Go.Proofs.YtkcahnefekkfaaaAbs
