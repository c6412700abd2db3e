/- The abstract layer, part B: no statement is proved here; abstract values, heaps and walks, and that the machine does as they say. -/
import Derived.Test.YthigpfognkmegaaAbsA
import Derived.LoopN
set_option linter.unusedVariables false
set_option linter.unusedSimpArgs false
namespace Go.Proofs.YthigpfognkmegaaAbs
open Go Go.RowKit

abbrev Regs := Nat → Value
def aEval (T : Regs) : Operand → Value
  | .tmp t => T t
  | .const v => if pureV v = true then v else junk
  | .global _ => junk
  | .func f => .func (.func f) #[] #[]
def upd (T : Regs) (d : Option Tmp) (v : Value) : Regs := match d with
  | some d => fun t => if t = d then v else T t
  | none => T

/-- What a function's run began with. -/
structure Ctx where
  P : Program
  nt : Nat
  ρ0 : Nat → Option Nat
  g0 : AMem
  n0 : Nat
  touch : Nat → Prop
  w0 : World

/-- May it be written? -/
def Ctx.may (X : Ctx) (i : Nat) : Prop := i < X.n0 → X.touch i

/-- The state of a function's run. -/
structure Cfg (X : Ctx) (T : Regs) (g : AMem) (n : Nat) (ρ : Nat → Option Nat) (a : Act) (w : World) : Prop where
  size : a.tmps.size = X.nt
  regs : ∀ t, VRel ρ (szOf w) (T t) (a.tmps.getD t undef)
  rep : GRep ρ g n w
  le : X.n0 ≤ n
  ext : ∀ i, i < X.n0 → ρ i = X.ρ0 i
  frame : Frame0 (fun b => ∃ i, i < X.n0 ∧ X.touch i ∧ X.ρ0 i = some b) X.w0 w
  fresh : ∀ j b, X.n0 ≤ j → ρ j = some b → X.w0.heap.size ≤ b ∨ ∃ i, i < X.n0 ∧ X.touch i ∧ X.ρ0 i = some b
  keep : ∀ i, i < X.n0 → X.g0 i = none → g i = none
  defers : a.defers = []

section
variable {X : Ctx} {T : Regs} {g : AMem} {n : Nat} {ρ : Nat → Option Nat} {a : Act} {w : World}

theorem Cfg.eval (h : Cfg X T g n ρ a w) (x : Operand) : VRel ρ (szOf w) (aEval T x) (a.eval x) := by
  cases x with
  | tmp t => exact h.regs t
  | const v =>
    simp only [aEval, Act.eval]
    split
    · exact pureV_rel ‹_›
    · exact .junk _
  | global g => exact .junk _
  | func f => exact .func _ _ _ _ _ rfl rfl (fun i h1 => by simp at h1) (fun i h1 => by simp at h1)

theorem getD_put (a : Act) (d : Tmp) (v : Value) (hd : d < a.tmps.size) (t : Nat) : (a.put (some d) v).tmps.getD t undef = if t = d then v else a.tmps.getD t undef := by
  simp only [Act.put, Array.getD_eq_getD_getElem?, Array.getElem?_setIfInBounds]
  by_cases h : d = t
  · subst h; simp [hd]
  · rw [if_neg h, if_neg (fun e => h e.symm)]

/-- A step of the run. -/
theorem Cfg.step {t : Nat → Prop} {v cv : Value} {g' : AMem} {n' : Nat} {w' : World} {ρ' : Nat → Option Nat} {dst : Option Tmp} (h : Cfg X T g n ρ a w) (ht : Trans t ρ g n w v g' n' cv w' ρ') (hm : ∀ i, t i → X.may i) (hd : ∀ d, dst = some d → d < X.nt) :
    Cfg X (upd T dst v) g' n' ρ' (a.put dst cv) w' := by
  have hext : ∀ i b, ρ i = some b → ρ' i = some b := fun i b hi => by rw [ht.ext i (h.rep.lt hi)]; exact hi
  have touched : ∀ i b, i < n → t i → ρ i = some b → X.w0.heap.size ≤ b ∨ ∃ i, i < X.n0 ∧ X.touch i ∧ X.ρ0 i = some b := fun i b hi hti hb => by
    by_cases hi0 : i < X.n0
    · exact .inr ⟨i, hi0, hm i hti hi0, by rw [← h.ext i hi0]; exact hb⟩
    · exact h.fresh i b (by omega) hb
  refine ⟨?_, ?_, ht.rep, Nat.le_trans h.le ht.le, fun i hi => by rw [ht.ext i (Nat.lt_of_lt_of_le hi h.le)]; exact h.ext i hi, ?_, ?_, fun i hi h0 => ht.keep i (Nat.lt_of_lt_of_le hi h.le) (h.keep i hi h0), ?_⟩
  · cases dst with
    | none => exact h.size
    | some d => simpa [Act.put] using h.size
  · intro t
    have hold := (h.regs t).mono hext ht.frame.cells
    cases dst with
    | none => exact hold
    | some d =>
      rw [getD_put a d cv (by rw [h.size]; exact hd d rfl) t]
      simp only [upd]
      split
      · exact ht.val
      · exact hold
  · refine h.frame.trans ht.frame fun b hb ⟨i, hi, hti, hib⟩ => ?_
    exact (touched i b hi hti hib).resolve_left (by omega)
  · intro j b hj hb
    by_cases hjn : j < n
    · rw [ht.ext j hjn] at hb; exact h.fresh j b hj hb
    · rcases ht.fresh j b (by omega) hb with hw | ⟨i, hi, hti, hib⟩
      · exact .inl (Nat.le_trans h.frame.size hw)
      · exact touched i b hi hti hib
  · cases dst <;> exact h.defers

/-- A register that is passed over. -/
theorem Cfg.skip {dst : Option Tmp} (h : Cfg X T g n ρ a w) (hd : ∀ d, dst = some d → d < X.nt) : Cfg X (upd T dst undef) g n ρ (a.put dst undef) w :=
  h.step (t := fun _ => False) (Trans.stay h.rep (pureV_rel rfl) rfl rfl rfl rfl) (fun _ h => h.elim) hd
theorem Cfg.drew (h : Cfg X T g n ρ a w) : Cfg X T g n ρ a { w with drawn := w.drawn + 1 } := by
  have hs : szOf { w with drawn := w.drawn + 1 } = szOf w := szOf_same rfl
  exact ⟨h.size, by rw [hs]; exact h.regs, h.rep.same rfl, h.le, h.ext, h.frame.trans (Frame0.same (t := fun _ => False) rfl rfl rfl rfl) (fun _ _ h => h.elim), h.fresh, h.keep, h.defers⟩
end

/-! ### Calls -/
/-- A function of Go's, with a body. -/
def goFn (P : Program) (f : FuncId) : Bool := match P.funcs[f]? with
  | some fn => fn.body.isSome && !(fn.name == "runtime.NumGoroutine")
  | none => false
def aCall (T : Regs) : Op → Option (FuncId × List Value)
  | .call c => match c.callee with
    | .value f => match aEval T f with
      | .func (.func k) first captured => some (k, first.toList ++ c.args.toList.map (aEval T) ++ captured.toList)
      | _ => none
    | _ => none
  | _ => none

section
variable {X : Ctx} {T : Regs} {g : AMem} {n : Nat} {ρ : Nat → Option Nat} {a : Act} {w : World}
theorem aCall_run {o : Oper} {f : FuncId} {args : List Value} (h : Cfg X T g n ρ a w) (hc : aCall T o.op = some (f, args)) (hf : goFn X.P f = true) :
    ∃ cargs : Array Value, (execOp a.eval o).run X.P w = .ok (.enter f cargs) w ∧ VRs ρ (szOf w) args cargs.toList := by
  unfold aCall at hc
  split at hc
  · rename_i c hop
    split at hc
    · rename_i fo hcal
      have hfo := h.eval fo
      split at hc
      · rename_i k first captured hev
        cases hc
        rw [hev] at hfo
        cases hcv : a.eval fo <;> rw [hcv] at hfo <;> cases hfo
        rename_i first' captured' e1 e2 e3 e4
        refine ⟨first' ++ c.args.map a.eval ++ captured', ?_, ?_⟩
        · unfold goFn at hf
          split at hf
          · rename_i fn hfn
            simp only [Bool.and_eq_true, Bool.not_eq_true'] at hf
            obtain ⟨hf1, hf2⟩ := hf
            have hb : ¬ fn.body = none := fun e => by simp [e] at hf1
            have hne : ¬ fn.name = "runtime.NumGoroutine" := by simpa using hf2
            simp [execOp, hop, resolve, hcal, hcv, Deferred.ofValue, invoke, callFunc, hfn, hne, hb]
          · cases hf
        · simp only [Array.toList_append, Array.toList_map]
          refine (VRs.append ⟨by simpa using e1, fun i h1 h2 => e2 i (by simpa using h1) (by simpa using h2)⟩ ⟨by simp, fun i h1 h2 => ?_⟩).append ⟨by simpa using e3, fun i h1 h2 => e4 i (by simpa using h1) (by simpa using h2)⟩
          simp only [List.getElem_map]
          exact h.eval _
      · cases hc
    · cases hc
  · cases hc
end

/-! ### One operation's step -/
def Step (P : Program) (may : Nat → Prop) (o : Oper) (T : Regs) (g : AMem) (n : Nat) (v : Value) (g' : AMem) (n' : Nat) : Prop :=
  (∃ ε, aCall T o.op = none ∧ aOp P o.type (aEval T) g n o.op = some (v, ε) ∧ (∀ i, ε.touch i → may i) ∧ g' = ε.mem g n ∧ n' = ε.next n) ∨
  (∃ f args t, aCall T o.op = some (f, args) ∧ goFn P f = true ∧ FnC P f args g n t v g' n' ∧ ∀ i, t i → may i)

theorem Step.wp {X : Ctx} {o : Oper} {T : Regs} {g : AMem} {n : Nat} {v : Value} {g' : AMem} {n' : Nat} {ρ : Nat → Option Nat} {a : Act} {w : World} {K : Act → World → Prop} {Q : Exit → Act → World → Prop}
    (hs : Step X.P X.may o T g n v g' n') (h : Cfg X T g n ρ a w) (hd : ∀ d, o.dst = some d → d < X.nt)
    (hK : ∀ cv w' ρ', Cfg X (upd T o.dst v) g' n' ρ' (a.put o.dst cv) w' → K (a.put o.dst cv) w') : o.wp X.P a w K Q := by
  rcases hs with ⟨ε, _, h1, h2, rfl, rfl⟩ | ⟨f, args, t, h1, h2, h3, h4⟩
  · obtain ⟨r, cv, w', ρ', e1, e2, e3⟩ := aOp_sound h.rep h.eval h1
    have hc := h.step e3 h2 hd
    unfold Oper.wp
    rw [e1]
    rcases e2 with rfl | ⟨rfl, rfl⟩
    · exact hK _ _ _ hc
    · exact hK _ _ _ hc
  · obtain ⟨cargs, e1, e2⟩ := aCall_run h h1 h2
    unfold Oper.wp
    rw [e1]
    refine (h3 ρ w cargs h.rep e2).mono fun e w' he => ?_
    obtain ⟨cv, ρ', rfl, ht⟩ := he
    exact hK _ _ _ (h.step ht h4 hd)

/-! ### Operands decide -/
theorem aOp_congr {P : Program} {ty : TypeId} {e1 e2 : Operand → Value} {g : AMem} {n : Nat} (op : Op) (h : ∀ x ∈ op.operands, e1 x = e2 x) : aOp P ty e1 g n op = aOp P ty e2 g n op := by
  have pairs : ∀ ps : Array (Nat × Operand), (∀ x ∈ (ps.toList.map (·.2)).toArray, e1 x = e2 x) →
      (ps.toList.map fun p => (p.1, e1 p.2)) = (ps.toList.map fun p => (p.1, e2 p.2)) := fun ps hp =>
    List.map_congr_left fun p hm => by rw [hp p.2 (by simpa using ⟨p.1, by simpa using hm⟩)]
  cases op with
  | call c =>
    obtain ⟨callee, args, argTypes⟩ := c
    cases callee with
    | builtin b =>
      simp only [Op.operands, Call.operands, Array.empty_append] at h
      have hargs : args.map e1 = args.map e2 := Array.map_congr_left fun x hx => h x (by simpa using hx)
      have hall : ∀ xs : List Operand, args.toList = xs → xs.all (fun x => flatV (e1 x)) = xs.all (fun x => flatV (e2 x)) := fun xs hx => by
        subst hx
        rw [Bool.eq_iff_iff, List.all_eq_true, List.all_eq_true]
        exact ⟨fun k x hx => by rw [← h x (by simpa using hx)]; exact k x hx, fun k x hx => by rw [h x (by simpa using hx)]; exact k x hx⟩
      have hmem : ∀ x, x ∈ args.toList → e1 x = e2 x := fun x hx => h x (by simpa using hx)
      simp only [aOp, aBuiltin]
      split <;> first
        | rfl
        | (simp only [hargs, hall _ rfl]; done)
        | (rename_i heq1 heq2; rw [hmem _ (by rw [heq1]; simp)]; done)
        | (rename_i heq1 heq2; rw [hmem _ (by rw [heq1]; exact List.mem_cons_self), hmem _ (by rw [heq1]; exact List.mem_cons_of_mem _ List.mem_cons_self)]; done)
    | _ => rfl
  | build t ps => simp only [Op.operands] at h; simp only [aOp, pairs ps h]
  | buildSlice t k ps => simp only [Op.operands] at h; simp only [aOp, pairs ps h]
  | slice t x lo hi mx => cases lo <;> cases hi <;> cases mx <;> (simp [Op.operands] at h; simp_all [aOp])
  | makeFunc fn first captured =>
    simp only [Op.operands] at h
    have h1 : first.map e1 = first.map e2 := Array.map_congr_left fun x hx => h x (by simp [hx])
    have h2 : captured.map e1 = captured.map e2 := Array.map_congr_left fun x hx => h x (by simp [hx])
    simp only [aOp, h1, h2]
  | _ => first | rfl | (simp [Op.operands] at h; simp_all [aOp])
end Go.Proofs.YthigpfognkmegaaAbs

namespace Go.Proofs.YthigpfognkmegaaAbs
open Go Go.RowKit

/-! ### Guards -/
def aWanted (ops : Array Oper) (T : Regs) (o : Oper) : Option Bool := match o.guard with
  | none => some true
  | some (j, want) => match (ops[j]?).bind (·.dst) with
    | none => some false
    | some d => match T d with
      | .bool b => some (b == want)
      | .tuple _ => some false
      | _ => none
theorem aWanted_sound {X : Ctx} {ops : Array Oper} {T : Regs} {o : Oper} {b : Bool} {g : AMem} {n : Nat} {ρ : Nat → Option Nat} {a : Act} {w : World} (h : Cfg X T g n ρ a w) (hw : aWanted ops T o = some b) : Region.wanted o (yielded ops a.tmps) = b := by
  unfold aWanted at hw
  unfold Region.wanted
  split at hw
  · rename_i hg; cases hw; simp [hg]
  · rename_i j want hg
    simp only [hg]
    unfold yielded
    split at hw
    · rename_i hd; cases hw; simp [hd]
    · rename_i d hd
      have hr := h.regs d
      simp only [hd, Option.bind_some]
      rw [Array.getD_eq_getD_getElem?] at hr
      cases htm : a.tmps[d]? with
      | none =>
        rw [htm] at hr
        split at hw
        · rename_i b' hb; rw [hb] at hr; cases hr
        · cases hw; simp
        · cases hw
      | some cv =>
        rw [htm] at hr
        split at hw
        · rename_i b' hb; rw [hb] at hr; cases hw; cases hcv : cv <;> rw [hcv] at hr <;> cases hr; simp
        · rename_i vs hb; rw [hb] at hr; cases hw; cases hcv : cv <;> rw [hcv] at hr <;> cases hr; simp
        · cases hw

/-! ### Which operation waits for which -/
def maskOf (acc : List Nat) (o : Oper) : Nat := o.after.toList.foldl (fun s e => if Region.binds .any e then s ||| (2 ^ e.on ||| acc.getD e.on 0) else s) 0
def masksAux (acc : List Nat) : List Oper → List Nat
  | [] => acc
  | o :: r => masksAux (acc ++ [maskOf acc o]) r
def masks (ops : List Oper) : List Nat := masksAux [] ops
def pre (ops : Array Oper) (i j : Nat) : Bool := ((masks ops.toList).getD i 0).testBit j

theorem masksAux_spec : ∀ (l : List Oper) (acc : List Nat), (masksAux acc l).length = acc.length + l.length ∧ (masksAux acc l).take acc.length = acc ∧
    ∀ (i : Nat) (hi : i < l.length), (masksAux acc l)[acc.length + i]? = some (maskOf ((masksAux acc l).take (acc.length + i)) l[i])
  | [], acc => by simp [masksAux]
  | o :: r, acc => by
    obtain ⟨h1, h2, h3⟩ := masksAux_spec r (acc ++ [maskOf acc o])
    simp only [masksAux]
    simp only [List.length_append, List.length_cons, List.length_nil, Nat.zero_add] at h1 h2 h3
    have ht : (masksAux (acc ++ [maskOf acc o]) r).take acc.length = acc := by
      have := congrArg (List.take acc.length) h2
      rw [List.take_take] at this
      simpa using this
    refine ⟨by rw [h1]; simp; omega, ht, fun i hi => ?_⟩
    cases i with
    | zero =>
      rw [Nat.add_zero, ht]
      have := congrArg (fun l => l[acc.length]?) h2
      simp only [List.getElem?_take] at this
      simpa using this
    | succ i =>
      have := h3 i (by simpa using hi)
      rw [show acc.length + (i + 1) = acc.length + 1 + i by omega]
      simpa using this

theorem mask_bit {acc : List Nat} {o : Oper} {j : Nat} (h : (maskOf acc o).testBit j = true) :
    ∃ e ∈ o.after, Region.binds .any e = true ∧ (j = e.on ∨ (acc.getD e.on 0).testBit j = true) := by
  unfold maskOf at h
  have key : ∀ (l : List Edge) (s : Nat), (l.foldl (fun s e => if Region.binds .any e then s ||| (2 ^ e.on ||| acc.getD e.on 0) else s) s).testBit j = true →
      s.testBit j = true ∨ ∃ e ∈ l, Region.binds .any e = true ∧ (j = e.on ∨ (acc.getD e.on 0).testBit j = true) := by
    intro l
    induction l with
    | nil => intro s hs; exact .inl hs
    | cons e l ih =>
      intro s hs
      simp only [List.foldl_cons] at hs
      rcases ih _ hs with h1 | ⟨e', he', h2⟩
      · by_cases hb : Region.binds .any e = true
        · rw [if_pos hb] at h1
          simp only [Nat.testBit_or, Bool.or_eq_true] at h1
          rcases h1 with h1 | h1 | h1
          · exact .inl h1
          · refine .inr ⟨e, by simp, hb, .inl ?_⟩
            rw [Nat.testBit_two_pow] at h1
            exact (by simpa using h1 : e.on = j).symm
          · exact .inr ⟨e, by simp, hb, .inr h1⟩
        · rw [if_neg hb] at h1; exact .inl h1
      · exact .inr ⟨e', by simp [he'], h2⟩
  rcases key _ _ h with h | ⟨e, he, h⟩
  · simp at h
  · exact ⟨e, by simpa using he, h⟩

/-- Whoever waits for no one but those that have been: all that it waits for, through others too, has been. -/
theorem pre_closed {ops : Array Oper} {D : Nat → Prop} (hlt : ∀ (i : Nat) (o : Oper), ops[i]? = some o → ∀ e ∈ o.after, Region.binds .any e = true → e.on < i)
    (hc : ∀ (i : Nat) (o : Oper), ops[i]? = some o → D i → ∀ e ∈ o.after, Region.binds .any e = true → D e.on) :
    ∀ (i : Nat) (o : Oper), ops[i]? = some o → (∀ e ∈ o.after, Region.binds .any e = true → D e.on) → ∀ j, pre ops i j = true → D j := by
  intro i
  induction i using Nat.strongRecOn with
  | _ i ih =>
    intro o ho hd j hj
    obtain ⟨h1, _, h3⟩ := masksAux_spec ops.toList []
    have hi : i < ops.toList.length := by simpa using (Array.getElem?_eq_some_iff.1 ho).1
    have hm := h3 i hi
    simp only [List.length_nil, Nat.zero_add] at hm
    have hoi : ops.toList[i] = o := by
      have := ho
      rw [Array.getElem?_eq_some_iff] at this
      obtain ⟨_, h⟩ := this
      simpa using h
    unfold pre masks at hj
    rw [List.getD_eq_getElem?_getD, hm, hoi] at hj
    simp only [Option.getD_some] at hj
    obtain ⟨e, he, hb, hj⟩ := mask_bit hj
    have hei := hlt i o ho e he hb
    rcases hj with rfl | hj
    · exact hd e he hb
    · have : ((masksAux [] ops.toList).take i).getD e.on 0 = (masksAux [] ops.toList).getD e.on 0 := by
        simp [List.getD_eq_getElem?_getD, List.getElem?_take, hei]
      rw [this] at hj
      have hle : e.on < ops.size := by
        have := (Array.getElem?_eq_some_iff.1 ho).1
        omega
      exact ih e.on hei ops[e.on] (Array.getElem?_eq_getElem hle) (hc e.on _ (Array.getElem?_eq_getElem hle) (hd e he hb)) j hj
end Go.Proofs.YthigpfognkmegaaAbs

namespace Go.Proofs.YthigpfognkmegaaAbs
open Go Go.RowKit

/-- It asks the heap nothing, and does nothing to it. -/
def pureOp : Op → Bool
  | .move _ | .assign _ | .pick .. | .build .. | .nilCheck _ | .binOp .. | .unOp .. | .convert .. | .makeFunc .. | .fieldAddr .. | .field .. | .indexAddr .. | .index .. | .extract .. => true
  | .call { callee := .builtin b, .. } => match b with
    | .len | .max | .min | .real | .imag | .complex => true
    | _ => false
  | _ => false
theorem aOp_pure {P : Program} {ty : TypeId} {ev : Operand → Value} {g : AMem} {n : Nat} {op : Op} {v : Value} {ε : Eff} (hp : pureOp op = true) (h : aOp P ty ev g n op = some (v, ε)) :
    ε = .none ∧ ∀ g' n', aOp P ty ev g' n' op = some (v, .none) := by
  cases op with
  | call c =>
    obtain ⟨callee, args, argTypes⟩ := c
    cases callee with
    | builtin b =>
      simp only [aOp, aBuiltin] at h ⊢
      split at h <;> simp only [pureOp] at hp <;> first
        | (cases hp; done)
        | (cases h; done)
        | (split at h
           · simp only [Option.map_eq_some_iff, Prod.mk.injEq] at h
             obtain ⟨u, hu, rfl, rfl⟩ := h
             exact ⟨rfl, fun g' n' => by simp_all⟩
           · cases h)
        | (simp only [Option.map_eq_some_iff, Prod.mk.injEq] at h
           obtain ⟨u, hu, rfl, rfl⟩ := h
           exact ⟨rfl, fun g' n' => by simp_all⟩)
    | _ => simp [pureOp] at hp
  | move x => simp only [aOp, Option.some.injEq, Prod.mk.injEq] at h; obtain ⟨rfl, rfl⟩ := h; exact ⟨rfl, fun _ _ => rfl⟩
  | assign x => simp only [aOp, Option.some.injEq, Prod.mk.injEq] at h; obtain ⟨rfl, rfl⟩ := h; exact ⟨rfl, fun _ _ => rfl⟩
  | pick c a b =>
    simp only [aOp] at h ⊢
    split at h
    · cases h; exact ⟨rfl, fun _ _ => by simp_all⟩
    · cases h
  | build t ps =>
    simp only [aOp] at h ⊢
    split at h
    · split at h
      · simp only [Option.map_eq_some_iff, Prod.mk.injEq] at h
        obtain ⟨u, hu, rfl, rfl⟩ := h
        exact ⟨rfl, fun _ _ => by simp_all⟩
      · cases h
    · split at h
      · simp only [Option.map_eq_some_iff, Prod.mk.injEq] at h
        obtain ⟨u, hu, rfl, rfl⟩ := h
        exact ⟨rfl, fun _ _ => by simp_all⟩
      · cases h
    · cases h
  | nilCheck x =>
    simp only [aOp] at h ⊢
    split at h <;> first | (cases h; exact ⟨rfl, fun _ _ => by simp_all⟩) | cases h
  | makeFunc fn a b => simp only [aOp, Option.some.injEq, Prod.mk.injEq] at h; obtain ⟨rfl, rfl⟩ := h; exact ⟨rfl, fun _ _ => rfl⟩
  | extract x i =>
    simp only [aOp] at h ⊢
    split at h
    · simp only [Option.map_eq_some_iff, Prod.mk.injEq] at h
      obtain ⟨u, hu, rfl, rfl⟩ := h
      exact ⟨rfl, fun _ _ => by simp_all⟩
    · cases h
  | unOp op t x =>
    simp only [aOp] at h ⊢
    split at h
    · simp only [Option.map_eq_some_iff, Prod.mk.injEq] at h
      obtain ⟨u, hu, rfl, rfl⟩ := h
      exact ⟨rfl, fun _ _ => by simp_all⟩
    · cases h
  | convert s d x =>
    simp only [aOp] at h ⊢
    split at h
    · simp only [Option.map_eq_some_iff, Prod.mk.injEq] at h
      obtain ⟨u, hu, rfl, rfl⟩ := h
      exact ⟨rfl, fun _ _ => by simp_all⟩
    · cases h
  | binOp | fieldAddr | field | indexAddr | index =>
    simp only [aOp, Option.map_eq_some_iff, Prod.mk.injEq] at h ⊢
    obtain ⟨u, hu, rfl, rfl⟩ := h
    exact ⟨rfl, fun _ _ => ⟨_, hu, by simp⟩⟩
  | _ => simp [pureOp] at hp

/-- Ordered with regard to all others that ask the heap, or do something to it. -/
def ordB (ops : Array Oper) (i : Nat) : Bool := (List.range ops.size).all fun j => j == i || (match ops[j]? with | some o => pureOp o.op | none => true) || (if j < i then pre ops i j else pre ops j i)
/-- What must hold of a region's text. -/
def drawOk (ops : Array Oper) : Bool :=
  Region.noSelect ops &&
  ((List.range ops.size).all fun i => match ops[i]? with
    | none => true
    | some oi => oi.after.all (fun e => !Region.binds .any e || e.on < i) &&
      (match oi.dst with
       | none => true
       | some t => (List.range ops.size).all fun j => j == i || match ops[j]? with
         | none => true
         | some oj => oj.dst != some t && (!(oj.looksAt ops).contains t || pre ops i j || pre ops j i)))

theorem drawOk_lt {ops : Array Oper} (h : drawOk ops = true) (i : Nat) (o : Oper) (ho : ops[i]? = some o) : ∀ e ∈ o.after, Region.binds .any e = true → e.on < i := by
  simp only [drawOk, Bool.and_eq_true, List.all_eq_true, List.mem_range] at h
  have hi := (Array.getElem?_eq_some_iff.1 ho).1
  have := h.2 i hi
  simp only [ho, Bool.and_eq_true, Array.all_eq_true_iff_forall_mem, Bool.or_eq_true, Bool.not_eq_true', decide_eq_true_eq] at this
  intro e he hb
  rcases this.1 e he with h' | h'
  · rw [hb] at h'; cases h'
  · exact h'
theorem drawOk_dst {ops : Array Oper} (h : drawOk ops = true) {i j : Nat} {oi oj : Oper} {t : Tmp} (hi : ops[i]? = some oi) (hj : ops[j]? = some oj) (hne : j ≠ i) (ht : oi.dst = some t) :
    oj.dst ≠ some t ∧ (t ∈ oj.looksAt ops → pre ops i j = true ∨ pre ops j i = true) := by
  simp only [drawOk, Bool.and_eq_true, List.all_eq_true, List.mem_range] at h
  have hi' := (Array.getElem?_eq_some_iff.1 hi).1
  have hj' := (Array.getElem?_eq_some_iff.1 hj).1
  have := h.2 i hi'
  simp only [hi, ht, Bool.and_eq_true, List.all_eq_true, List.mem_range] at this
  have := this.2 j hj'
  simp only [hj, Bool.or_eq_true, beq_iff_eq, hne, false_or, Bool.and_eq_true, bne_iff_ne, Bool.not_eq_true', List.contains_eq_mem, decide_eq_false_iff_not] at this
  refine ⟨this.1, fun hm => ?_⟩
  rcases this.2 with (h' | h') | h'
  · exact absurd hm h'
  · exact .inl h'
  · exact .inr h'

theorem aWanted_congr {ops : Array Oper} {T T' : Regs} {o : Oper} (h : ∀ t ∈ o.looksAt ops, T t = T' t) : aWanted ops T o = aWanted ops T' o := by
  unfold aWanted
  cases hg : o.guard with
  | none => rfl
  | some p =>
    obtain ⟨j, want⟩ := p
    simp only
    cases hd : (ops[j]?).bind (·.dst) with
    | none => rfl
    | some d =>
      simp only
      rw [h d (by simp [Oper.looksAt, hg, hd])]
theorem eval_congr {ops : Array Oper} {T T' : Regs} {o : Oper} (h : ∀ t ∈ o.looksAt ops, T t = T' t) : ∀ x ∈ o.op.operands, aEval T x = aEval T' x := by
  intro x hx
  cases x with
  | tmp t => exact h t (List.mem_append_left _ (List.mem_filterMap.2 ⟨.tmp t, by simpa using hx, rfl⟩))
  | _ => rfl
theorem aCall_congr {T T' : Regs} {op : Op} (h : ∀ x ∈ op.operands, aEval T x = aEval T' x) : aCall T op = aCall T' op := by
  unfold aCall
  split
  · rename_i c
    split
    · rename_i f hf
      simp only [Op.operands, Call.operands, hf] at h
      rw [h f (by simp)]
      have : c.args.toList.map (aEval T) = c.args.toList.map (aEval T') := List.map_congr_left fun x hx => h x (by simp at hx ⊢; exact .inr hx)
      rw [this]
    · rfl
  · rfl
theorem Step.congr {P : Program} {may : Nat → Prop} {ops : Array Oper} {o : Oper} {T T' : Regs} {g : AMem} {n : Nat} {v : Value} {g' : AMem} {n' : Nat} (hs : Step P may o T g n v g' n') (h : ∀ t ∈ o.looksAt ops, T t = T' t) : Step P may o T' g n v g' n' := by
  have he := eval_congr h
  rcases hs with ⟨ε, h1, h2, h3⟩ | ⟨f, args, t, h1, h2⟩
  · exact .inl ⟨ε, by rw [← aCall_congr he]; exact h1, by rw [← aOp_congr o.op he]; exact h2, h3⟩
  · exact .inr ⟨f, args, t, by rw [← aCall_congr he]; exact h1, h2⟩
theorem aCall_not_pure {T : Regs} {op : Op} {x : FuncId × List Value} (h : aCall T op = some x) : pureOp op = false := by
  unfold aCall at h
  split at h
  · rename_i c
    obtain ⟨callee, args, argTypes⟩ := c
    cases callee <;> first | rfl | cases h
  · cases h

/-! ### A region as the text has it -/
abbrev St := Regs × AMem × Nat
/-- What is known of operation 'i', the states ahead of it and behind it given. -/
def Rec (P : Program) (may : Nat → Prop) (ops : Array Oper) (draw : Bool) (i : Nat) (s : St) (v : Value) (s' : St) : Prop :=
  ∃ o b, ops[i]? = some o ∧ aWanted ops s.1 o = some b ∧ (b = true → Step P may o s.1 s.2.1 s.2.2 v s'.2.1 s'.2.2) ∧ (b = false → v = undef ∧ s'.2 = s.2) ∧
    s'.1 = upd s.1 o.dst v ∧ ((draw = false ∨ ordB ops i = true) ∨ s'.2 = s.2)

section
variable {P : Program} {may : Nat → Prop} {ops : Array Oper} {st : Nat → St} {vs : Nat → Value}

/-- The registers when those of D have been carried out. -/
noncomputable def TD (ops : Array Oper) (T0 : Regs) (vs : Nat → Value) (D : Nat → Prop) : Regs := fun t =>
  @dite _ (∃ j o, ops[j]? = some o ∧ D j ∧ o.dst = some t) (Classical.propDecidable _) (fun h => vs h.choose) (fun _ => T0 t)
theorem TD_at (hok : drawOk ops = true) {T0 : Regs} {D : Nat → Prop} {j : Nat} {o : Oper} {t : Tmp} (ho : ops[j]? = some o) (hD : D j) (ht : o.dst = some t) : TD ops T0 vs D t = vs j := by
  unfold TD
  have hex : ∃ j o, ops[j]? = some o ∧ D j ∧ o.dst = some t := ⟨j, o, ho, hD, ht⟩
  rw [dif_pos hex]
  obtain ⟨o', h1, h2, h3⟩ := hex.choose_spec
  by_cases e : hex.choose = j
  · rw [e]
  · exact absurd h3 (drawOk_dst hok ho h1 e ht).1
theorem TD_not {T0 : Regs} {D : Nat → Prop} {t : Tmp} (h : ∀ j o, ops[j]? = some o → D j → o.dst ≠ some t) : TD ops T0 vs D t = T0 t := by
  unfold TD
  rw [dif_neg]
  rintro ⟨j, o, h1, h2, h3⟩
  exact h j o h1 h2 h3
theorem TD_eq (hok : drawOk ops = true) {T0 : Regs} {D D' : Nat → Prop} {t : Tmp} (h : ∀ j o, ops[j]? = some o → o.dst = some t → (D j ↔ D' j)) : TD ops T0 vs D t = TD ops T0 vs D' t := by
  by_cases hex : ∃ j o, ops[j]? = some o ∧ D j ∧ o.dst = some t
  · obtain ⟨j, o, h1, h2, h3⟩ := hex
    rw [TD_at hok h1 h2 h3, TD_at hok h1 ((h j o h1 h3).1 h2) h3]
  · rw [TD_not fun j o h1 h2 h3 => hex ⟨j, o, h1, h2, h3⟩, TD_not fun j o h1 h2 h3 => hex ⟨j, o, h1, (h j o h1 h3).2 h2, h3⟩]
theorem TD_add (hok : drawOk ops = true) {T0 : Regs} {D : Nat → Prop} {i : Nat} {o : Oper} (ho : ops[i]? = some o) (hD : ¬ D i) : TD ops T0 vs (fun j => D j ∨ j = i) = upd (TD ops T0 vs D) o.dst (vs i) := by
  funext t
  cases hd : o.dst with
  | none =>
    simp only [upd]
    exact TD_eq hok fun j o' h1 h2 => ⟨fun h => h.resolve_right fun e => (by subst e; rw [ho] at h1; cases h1; rw [hd] at h2; cases h2), Or.inl⟩
  | some d =>
    simp only [upd]
    by_cases e : t = d
    · subst e; rw [if_pos rfl]; exact TD_at hok ho (.inr rfl) hd
    · rw [if_neg e]
      exact TD_eq hok fun j o' h1 h2 => ⟨fun h => h.resolve_right fun e' => (by subst e'; rw [ho] at h1; cases h1; rw [hd] at h2; cases h2; exact e rfl), Or.inl⟩

theorem regs_prefix (hok : drawOk ops = true) {draw : Bool} (hrec : ∀ i, i < ops.size → Rec P may ops draw i (st i) (vs i) (st (i + 1))) : ∀ i, i ≤ ops.size → (st i).1 = TD ops (st 0).1 vs (fun j => j < i) := by
  intro i
  induction i with
  | zero => intro _; funext t; rw [TD_not fun j o _ h => absurd h (Nat.not_lt_zero _)]
  | succ i ih =>
    intro hi
    obtain ⟨o, b, h1, h2, h3, h4, h5, h6⟩ := hrec i (by omega)
    rw [h5, ih (by omega), ← TD_add (D := fun j => j < i) hok h1 (Nat.lt_irrefl _)]
    congr 1
    funext j
    exact propext ⟨fun h => by rcases h with h | h <;> omega, fun h => by omega⟩

/-- Where nothing has turned between two places the heaps are one. -/
theorem heap_same (k m : Nat) (hk : k ≤ ops.size) (hm : m ≤ ops.size) (h : ∀ c, c < ops.size → (st (c + 1)).2 ≠ (st c).2 → (c < k ↔ c < m)) : (st k).2 = (st m).2 := by
  have key : ∀ d k, k + d ≤ ops.size → (∀ c, k ≤ c → c < k + d → (st (c + 1)).2 = (st c).2) → (st (k + d)).2 = (st k).2 := by
    intro d
    induction d with
    | zero => intro k _ _; rfl
    | succ d ih =>
      intro k hk h
      have := h (k + d) (by omega) (by omega)
      rw [show k + (d + 1) = k + d + 1 by omega, this]
      exact ih k (by omega) fun c h1 h2 => h c h1 (by omega)
  rcases Nat.le_total k m with hkm | hkm
  · have := key (m - k) k (by omega) fun c h1 h2 => by
      by_cases e : (st (c + 1)).2 = (st c).2
      · exact e
      · have := (h c (by omega) e).2 (by omega); omega
    rw [show k + (m - k) = m by omega] at this
    exact this.symm
  · have := key (k - m) m (by omega) fun c h1 h2 => by
      by_cases e : (st (c + 1)).2 = (st c).2
      · exact e
      · have := (h c (by omega) e).1 (by omega); omega
    rw [show m + (k - m) = k by omega] at this
    exact this

/-- How many have not come up. -/
def cntU (D : Nat → Bool) : Nat → Nat
  | 0 => 0
  | n + 1 => cntU D n + if D n then 0 else 1
theorem cntU_zero {D : Nat → Bool} {n : Nat} (h : cntU D n = 0) : ∀ i, i < n → D i = true := by
  induction n with
  | zero => intro i hi; omega
  | succ n ih =>
    intro i hi
    simp only [cntU] at h
    by_cases e : i = n
    · subst e
      cases hd : D i with
      | true => rfl
      | false => simp [hd] at h
    · exact ih (by omega) i (by omega)
theorem cntU_congr {D D' : Nat → Bool} {n : Nat} (h : ∀ j, j < n → D j = D' j) : cntU D n = cntU D' n := by
  induction n with
  | zero => rfl
  | succ n ih => simp only [cntU]; rw [ih fun j hj => h j (by omega), h n (by omega)]
theorem cntU_add {D D' : Nat → Bool} {n i : Nat} (hi : i < n) (h0 : D i = false) (h1 : D' i = true) (h : ∀ j, j ≠ i → D' j = D j) : cntU D' n + 1 = cntU D n := by
  induction n with
  | zero => omega
  | succ n ih =>
    simp only [cntU]
    by_cases e : i = n
    · subst e
      rw [cntU_congr (D := D') (D' := D) fun j hj => h j (by omega), h0, h1]; simp
    · rw [h n (fun e' => e e'.symm), ← ih (by omega)]; omega

/-- **A region that draws its order.** -/
theorem wp_drawn {X : Ctx} (hm : X.P.follows .mixedOrders = true) (hok : drawOk ops = true) (hdst : ∀ (i : Nat) (o : Oper) (d : Tmp), ops[i]? = some o → o.dst = some d → d < X.nt)
    (hrec : ∀ i, i < ops.size → Rec X.P X.may ops true i (st i) (vs i) (st (i + 1)))
    {Q : Exit → Act → World → Prop} {ρ : Nat → Option Nat} {a : Act} {w : World} {id : Nat} (h : Cfg X (st 0).1 (st 0).2.1 (st 0).2.2 ρ a w)
    (hQ : ∀ ρ a w, Cfg X (st ops.size).1 (st ops.size).2.1 (st ops.size).2.2 ρ a w → Q .normal a w) : (Code.region id ops true).wp X.P Q a w := by
  refine wp_region_any hm ?_
  -- what holds when 'listed' have been carried out
  have key : ∀ (fuel : Nat) (listed : Array Bool) (a : Act) (w : World), listed.size = ops.size →
      (∀ (i : Nat) (o : Oper), ops[i]? = some o → listed.getD i false = true → ∀ e ∈ o.after, Region.binds .any e = true → listed.getD e.on false = true) →
      cntU (fun i => listed.getD i false) ops.size ≤ fuel →
      (∃ ρ k, k ≤ ops.size ∧ Cfg X (TD ops (st 0).1 vs (fun j => listed.getD j false = true)) (st k).2.1 (st k).2.2 ρ a w ∧
        ∀ c, c < ops.size → (st (c + 1)).2 ≠ (st c).2 → (listed.getD c false = true ↔ c < k)) →
      wpAny X.P .any ops Q fuel listed a w := by
    intro fuel
    induction fuel with
    | zero =>
      intro listed a w hs hcl hcnt ⟨ρ, k, hk, hc, hch⟩
      have hall : ∀ i, i < ops.size → listed.getD i false = true := cntU_zero (Nat.le_zero.1 hcnt)
      have hready : Region.ready .any ops listed = [] := by
        rw [List.eq_nil_iff_forall_not_mem]
        intro i hi
        rw [mem_ready] at hi
        obtain ⟨h1, o, ho, _⟩ := hi
        have hlt := (Array.getElem?_eq_some_iff.1 ho).1
        have := hall i hlt
        rw [Array.getD_eq_getD_getElem?, Array.getElem?_eq_getElem (by omega)] at this h1
        simp at this h1
        rw [this] at h1; cases h1
      refine ⟨hready, hQ ρ a w ?_⟩
      have hg : (st k).2 = (st ops.size).2 := heap_same k ops.size hk (Nat.le_refl _) fun c hc hcc => ⟨fun _ => hc, fun _ => (hch c hc hcc).1 (hall c hc)⟩
      rw [regs_prefix hok hrec ops.size (Nat.le_refl _), ← hg]
      have hT : TD ops (st 0).1 vs (fun j => j < ops.size) = TD ops (st 0).1 vs (fun j => listed.getD j false = true) := by
        funext t
        exact TD_eq hok fun j o h1 _ => ⟨fun hj => hall j hj, fun _ => (Array.getElem?_eq_some_iff.1 h1).1⟩
      rw [hT]; exact hc
    | succ fuel ih =>
      intro listed a w hs hcl hcnt ⟨ρ, k, hk, hc, hch⟩
      refine ⟨fun hr => ?_, fun i hi => ?_⟩
      · -- nobody may come up: all have
        have hall : ∀ i, i < ops.size → listed.getD i false = true := by
          intro i
          induction i using Nat.strongRecOn with
          | _ i ihi =>
            intro hi
            by_cases e : listed.getD i false = true
            · exact e
            · exfalso
              have hmem : i ∈ Region.ready .any ops listed := by
                rw [mem_ready]
                refine ⟨?_, ops[i], Array.getElem?_eq_getElem hi, fun e' he' hb => ?_⟩
                · rw [Array.getD_eq_getD_getElem?, Array.getElem?_eq_getElem (by omega)] at e ⊢
                  simpa using e
                · have hlt := drawOk_lt hok i _ (Array.getElem?_eq_getElem hi) e' he' hb
                  exact ihi e'.on hlt (by omega)
              rw [hr] at hmem; cases hmem
        refine hQ ρ a w ?_
        have hg : (st k).2 = (st ops.size).2 := heap_same k ops.size hk (Nat.le_refl _) fun c hc hcc => ⟨fun _ => hc, fun _ => (hch c hc hcc).1 (hall c hc)⟩
        rw [regs_prefix hok hrec ops.size (Nat.le_refl _), ← hg]
        have hT : TD ops (st 0).1 vs (fun j => j < ops.size) = TD ops (st 0).1 vs (fun j => listed.getD j false = true) := by
          funext t
          exact TD_eq hok fun j o h1 _ => ⟨fun hj => hall j hj, fun _ => (Array.getElem?_eq_some_iff.1 h1).1⟩
        rw [hT]; exact hc
      · rw [mem_ready] at hi
        obtain ⟨hun, o, ho, hdeps⟩ := hi
        have hlt := (Array.getElem?_eq_some_iff.1 ho).1
        have hnot : ¬ listed.getD i false = true := by
          rw [Array.getD_eq_getD_getElem?, Array.getElem?_eq_getElem (by omega)] at hun ⊢
          simp at hun ⊢; exact hun
        have hpre : ∀ j, pre ops i j = true → listed.getD j false = true :=
          pre_closed (D := fun j => listed.getD j false = true) (drawOk_lt hok) hcl i o ho hdeps
        have hpost : ∀ j oj, ops[j]? = some oj → listed.getD j false = true → pre ops j i = true → False := fun j oj hoj hj hp =>
          hnot (pre_closed (D := fun j => listed.getD j false = true) (drawOk_lt hok) hcl j oj hoj (hcl j oj hoj hj) i hp)
        obtain ⟨o', b, ho', hw, hstep, hskip, hregs, hchg⟩ := hrec i hlt
        rw [ho] at ho'; cases ho'
        -- the operation looks at what it would look at in the text's order
        have hlook : ∀ t ∈ o.looksAt ops, (st i).1 t = TD ops (st 0).1 vs (fun j => listed.getD j false = true) t := by
          intro t ht
          rw [regs_prefix hok hrec i (by omega)]
          refine TD_eq hok fun j oj hoj hd => ?_
          by_cases e : i = j
          · subst e
            exact ⟨fun h => absurd h (Nat.lt_irrefl _), fun h => absurd h hnot⟩
          · have hor := (drawOk_dst hok hoj ho e hd).2 ht
            constructor
            · intro hji
              rcases hor with hp | hp
              · -- j waits for i, though it stands ahead: no edge goes that way
                exfalso
                have hlt' : ∀ m, pre ops j m = true → m < j := pre_closed (D := fun m => m < j) (drawOk_lt hok) (fun m om hom hmj e' he' hb => Nat.lt_trans (drawOk_lt hok m om hom e' he' hb) hmj) j oj hoj (drawOk_lt hok j oj hoj)
                have := hlt' i hp
                omega
              · exact hpre j hp
            · intro hj
              rcases hor with hp | hp
              · exact (hpost j oj hoj hj hp).elim
              · have hlt' : ∀ m, pre ops i m = true → m < i := pre_closed (D := fun m => m < i) (drawOk_lt hok) (fun m om hom hmj e' he' hb => Nat.lt_trans (drawOk_lt hok m om hom e' he' hb) hmj) i o ho (drawOk_lt hok i o ho)
                exact hlt' j hp
        have hwant := aWanted_sound hc (b := b) (by rw [← aWanted_congr hlook]; exact hw)
        have hdo := fun d hd => hdst i o d ho hd
        -- behind it
        have hset : ∀ j, (listed.setIfInBounds i true).getD j false = true ↔ (listed.getD j false = true ∨ j = i) := fun j => by
          by_cases e : j = i
          · subst e
            simp [Array.getD_eq_getD_getElem?, hs, hlt]
          · rw [getD_set_ne false (Ne.symm e)]
            exact ⟨.inl, fun h => h.resolve_right e⟩
        have hTset : TD ops (st 0).1 vs (fun j => (listed.setIfInBounds i true).getD j false = true) = upd (TD ops (st 0).1 vs (fun j => listed.getD j false = true)) o.dst (vs i) := by
          rw [← TD_add hok ho hnot]
          congr 1
          funext j
          exact propext (hset j)
        have hcl' : ∀ (j : Nat) (oj : Oper), ops[j]? = some oj → (listed.setIfInBounds i true).getD j false = true → ∀ e ∈ oj.after, Region.binds .any e = true → (listed.setIfInBounds i true).getD e.on false = true := by
          intro j oj hoj hj e he hb
          refine getD_set_true ?_
          rcases (hset j).1 hj with h' | h'
          · exact hcl j oj hoj h' e he hb
          · subst h'; rw [ho] at hoj; cases hoj; exact hdeps e he hb
        have hcnt' : cntU (fun j => (listed.setIfInBounds i true).getD j false) ops.size ≤ fuel := by
          have := cntU_add (D := fun j => listed.getD j false) (D' := fun j => (listed.setIfInBounds i true).getD j false) hlt (by simpa using hnot) ((hset i).2 (.inr rfl)) (fun j hj => getD_set_ne false (Ne.symm hj))
          omega
        -- it does what it does in the text's order
        have done : ∀ cv w' ρ' k', k' ≤ ops.size → Cfg X (upd (TD ops (st 0).1 vs (fun j => listed.getD j false = true)) o.dst (vs i)) (st k').2.1 (st k').2.2 ρ' (a.put o.dst cv) w' →
            (∀ c, c < ops.size → (st (c + 1)).2 ≠ (st c).2 → ((listed.setIfInBounds i true).getD c false = true ↔ c < k')) → wpAny X.P .any ops Q fuel (listed.setIfInBounds i true) (a.put o.dst cv) w' :=
          fun cv w' ρ' k' hk' hc' hch' => ih _ _ _ (by simpa using hs) hcl' hcnt' ⟨ρ', k', hk', by rw [hTset]; exact hc', hch'⟩
        have still : (st (i + 1)).2 = (st i).2 → ∀ c, c < ops.size → (st (c + 1)).2 ≠ (st c).2 → ((listed.setIfInBounds i true).getD c false = true ↔ c < k) := fun he c hc1 hc2 => by
          rw [hset c]
          refine ⟨fun h => ?_, fun h => .inl ((hch c hc1 hc2).2 h)⟩
          rcases h with h | h
          · exact (hch c hc1 hc2).1 h
          · subst h; exact absurd he hc2
        unfold wpOp
        simp only [ho, hwant]
        cases b with
        | false =>
          simp only [Bool.false_eq_true, if_false]
          obtain ⟨hv, hsame⟩ := hskip rfl
          have hc' := hc.skip (dst := o.dst) hdo
          rw [← hv] at hc' ⊢
          exact done _ _ _ k hk hc' (still hsame)
        | true =>
          simp only [if_true]
          refine .inl ?_
          have hs1 := (hstep rfl).congr hlook
          by_cases hp : pureOp o.op = true
          · -- it asks the heap nothing
            have hs2 : Step X.P X.may o (TD ops (st 0).1 vs (fun j => listed.getD j false = true)) (st k).2.1 (st k).2.2 (vs i) (st k).2.1 (st k).2.2 ∧ (st (i + 1)).2 = (st i).2 := by
              rcases hs1 with ⟨ε, h1, h2, h3, h4, h5⟩ | ⟨f, args, t, h1, _⟩
              · obtain ⟨rfl, h6⟩ := aOp_pure hp h2
                exact ⟨.inl ⟨.none, h1, h6 _ _, fun _ h => h.elim, rfl, rfl⟩, Prod.ext h4 h5⟩
              · rw [aCall_not_pure h1] at hp; cases hp
            exact hs2.1.wp hc hdo fun cv w' ρ' hc' => done cv w' ρ' k hk hc' (still hs2.2)
          · -- all that turn the heap and stand ahead of it have been, and no others
            have hchg' : ∀ c, c < ops.size → (st (c + 1)).2 ≠ (st c).2 → c ≠ i → (listed.getD c false = true ↔ c < i) := fun c hc1 hc2 hne => by
              obtain ⟨oc, bc, hoc, _, _, _, _, hord⟩ := hrec c hc1
              have hord := (hord.resolve_right hc2).resolve_left (by simp)
              simp only [ordB, List.all_eq_true, List.mem_range] at hord
              have hi' := hord i hlt
              simp only [ho, Bool.or_eq_true, beq_iff_eq, show ¬ i = c from fun e => hne e.symm, false_or, hp, Bool.false_eq_true] at hi'
              by_cases hic : i < c
              · rw [if_pos hic] at hi'
                exact ⟨fun h => (hpost c oc hoc h hi').elim, fun h => by omega⟩
              · rw [if_neg hic] at hi'
                exact ⟨fun _ => by omega, fun _ => hpre c hi'⟩
            have hg : (st k).2 = (st i).2 := heap_same k i hk (by omega) fun c hc1 hc2 => by
              rw [← hch c hc1 hc2]
              by_cases e : c = i
              · subst e; exact ⟨fun h => absurd h hnot, fun h => absurd h (Nat.lt_irrefl _)⟩
              · exact hchg' c hc1 hc2 e
            rw [hg] at hc
            refine hs1.wp hc hdo fun cv w' ρ' hc' => done cv w' ρ' (i + 1) (by omega) hc' fun c hc1 hc2 => ?_
            rw [hset c]
            by_cases e : c = i
            · subst e; exact ⟨fun _ => by omega, fun _ => .inr rfl⟩
            · rw [hchg' c hc1 hc2 e]
              exact ⟨fun h => by rcases h with h | h <;> omega, fun h => .inl (by omega)⟩
  refine key ops.size _ _ _ (by simp) (fun i o _ h => ?_) ?_ ⟨ρ, 0, Nat.zero_le _, ?_, fun c hc _ => ⟨fun h => ?_, fun h => by omega⟩⟩
  · exfalso
    rw [Array.getD_eq_getD_getElem?, Array.getElem?_replicate] at h
    split at h <;> simp at h
  · have : ∀ n, cntU (fun i => (Array.replicate ops.size false).getD i false) n ≤ n := by
      intro n
      induction n with
      | zero => exact Nat.le_refl _
      | succ n ih => simp only [cntU]; split <;> omega
    exact this _
  · have hT : TD ops (st 0).1 vs (fun j => (Array.replicate ops.size false).getD j false = true) = (st 0).1 := by
      funext t
      refine TD_not fun j o _ h => ?_
      exfalso
      rw [Array.getD_eq_getD_getElem?, Array.getElem?_replicate] at h
      split at h <;> simp at h
    rw [hT]
    exact h.drew
  · exfalso
    rw [Array.getD_eq_getD_getElem?, Array.getElem?_replicate] at h
    split at h <;> simp at h
end
end Go.Proofs.YthigpfognkmegaaAbs

namespace Go.Proofs.YthigpfognkmegaaAbs
open Go Go.RowKit

abbrev APost := Exit → Regs → AMem → Nat → Prop

def aStep (P : Program) (may : Nat → Prop) (ops : Array Oper) (draw : Bool) (i : Nat) (o : Oper) (T : Regs) (g : AMem) (n : Nat) (K : Value → AMem → Nat → Prop) : Prop :=
  match aCall T o.op with
  | some (f, args) => goFn P f = true ∧ ∃ t v g' n', FnC P f args g n t v g' n' ∧ (∀ i, t i → may i) ∧ ((draw = false ∨ ordB ops i = true) ∨ g' = g ∧ n' = n) ∧ K v g' n'
  | none => ∃ v ε, aOp P o.type (aEval T) g n o.op = some (v, ε) ∧ (∀ i, ε.touch i → may i) ∧ ((draw = false ∨ ordB ops i = true) ∨ ε = .none) ∧ K v (ε.mem g n) (ε.next n)
def aRun (P : Program) (may : Nat → Prop) (ops : Array Oper) (draw : Bool) (Q : Regs → AMem → Nat → Prop) : List (Oper × Nat) → Regs → AMem → Nat → Prop
  | [], T, g, n => Q T g n
  | (o, i) :: rest, T, g, n => ∃ b, aWanted ops T o = some b ∧ (b = true → aStep P may ops draw i o T g n fun v g' n' => aRun P may ops draw Q rest (upd T o.dst v) g' n') ∧
      (b = false → aRun P may ops draw Q rest (upd T o.dst undef) g n)

def Exit.thenA (next : Regs → AMem → Nat → Prop) (Q : APost) : APost
  | .normal, T, g, n => next T g n
  | e, T, g, n => Q e T g n
def Exit.inBlockA (id : Nat) (Q : APost) : APost
  | .exit id', T, g, n => if id' = id then Q .normal T g n else Q (.exit id') T g n
  | e, T, g, n => Q e T g n
def aRounds (body : APost → Regs → AMem → Nat → Prop) (Q : APost) : Nat → Regs → AMem → Nat → Prop
  | 0, _, _, _ => False
  | k + 1, T, g, n => body (Exit.thenA (aRounds body Q k) Q) T g n

/-- What must hold ahead of a piece of code. -/
def awp (P : Program) (may : Nat → Prop) : Code → APost → Regs → AMem → Nat → Prop
  | .skip, Q, T, g, n => Q .normal T g n
  | .label _, Q, T, g, n => Q .normal T g n
  | .region _ ops draw, Q, T, g, n => aRun P may ops draw (Q .normal) ops.toList.zipIdx T g n
  | .seq a b, Q, T, g, n => awp P may a (Exit.thenA (awp P may b Q) Q) T g n
  | .cond c x y, Q, T, g, n => ∃ b, aEval T c = .bool b ∧ (b = true → awp P may x Q T g n) ∧ (b = false → awp P may y Q T g n)
  | .block id body, Q, T, g, n => awp P may body (Exit.inBlockA id Q) T g n
  | .loop body, Q, T, g, n => ∃ k, aRounds (awp P may body) Q k T g n
  | .exit id, Q, T, g, n => Q (.exit id) T g n
  | .ret, Q, T, g, n => Q .ret T g n
  | _, _, _, _, _ => False

def codeOk (nt : Nat) : Code → Bool
  | .region _ ops draw => ops.all (fun o => match o.dst with | some d => decide (d < nt) | none => true) && (!draw || drawOk ops)
  | .seq a b => codeOk nt a && codeOk nt b
  | .cond _ a b => codeOk nt a && codeOk nt b
  | .block _ b => codeOk nt b
  | .loop b => codeOk nt b
  | _ => true

section
variable {P : Program} {may : Nat → Prop} {ops : Array Oper} {draw : Bool}

theorem aStep_step {i : Nat} {o : Oper} {T : Regs} {g : AMem} {n : Nat} {K : Value → AMem → Nat → Prop} (h : aStep P may ops draw i o T g n K) :
    ∃ v g' n', Step P may o T g n v g' n' ∧ ((draw = false ∨ ordB ops i = true) ∨ g' = g ∧ n' = n) ∧ K v g' n' := by
  unfold aStep at h
  split at h
  · rename_i f args hc
    obtain ⟨hf, t, v, g', n', h1, h2, h3, h4⟩ := h
    exact ⟨v, g', n', .inr ⟨f, args, t, hc, hf, h1, h2⟩, h3, h4⟩
  · rename_i hc
    obtain ⟨v, ε, h1, h2, h3, h4⟩ := h
    exact ⟨v, _, _, .inl ⟨ε, hc, h1, h2, rfl, rfl⟩, h3.imp id (fun e => by subst e; exact ⟨rfl, rfl⟩), h4⟩

theorem aRun_seq {Q : Regs → AMem → Nat → Prop} : ∀ (l : List (Oper × Nat)) (i0 : Nat) (T : Regs) (g : AMem) (n : Nat), (∀ k, l[k]? = (ops[i0 + k]?).map fun o => (o, i0 + k)) → i0 + l.length = ops.size → aRun P may ops draw Q l T g n →
    ∃ (st : Nat → St) (vs : Nat → Value), st i0 = (T, g, n) ∧ (∀ i, i0 ≤ i → i < ops.size → Rec P may ops draw i (st i) (vs i) (st (i + 1))) ∧ Q (st ops.size).1 (st ops.size).2.1 (st ops.size).2.2
  | [], i0, T, g, n, _, hl, h => ⟨fun _ => (T, g, n), fun _ => undef, rfl, fun i h1 h2 => by simp at hl; omega, h⟩
  | (o, i) :: rest, i0, T, g, n, hk, hl, h => by
    have h0 := hk 0
    simp only [List.getElem?_cons_zero, Nat.add_zero] at h0
    cases ho : ops[i0]? with
    | none => rw [ho] at h0; cases h0
    | some o' =>
      rw [ho] at h0
      simp only [Option.map_some, Option.some.injEq, Prod.mk.injEq] at h0
      obtain ⟨rfl, rfl⟩ := h0
      obtain ⟨b, hw, ht, hf⟩ := h
      have hk' : ∀ k, rest[k]? = (ops[i + 1 + k]?).map fun o => (o, i + 1 + k) := fun k => by
        have := hk (k + 1)
        rw [show i + (k + 1) = i + 1 + k by omega] at this
        simpa using this
      have hl' : i + 1 + rest.length = ops.size := by simp at hl; omega
      have build : ∀ v g' n', (b = true → Step P may o T g n v g' n') → (b = false → v = undef ∧ (g', n') = (g, n)) → ((draw = false ∨ ordB ops i = true) ∨ (g', n') = (g, n)) → aRun P may ops draw Q rest (upd T o.dst v) g' n' →
          ∃ (st : Nat → St) (vs : Nat → Value), st i = (T, g, n) ∧ (∀ j, i ≤ j → j < ops.size → Rec P may ops draw j (st j) (vs j) (st (j + 1))) ∧ Q (st ops.size).1 (st ops.size).2.1 (st ops.size).2.2 := by
        intro v g' n' hs hsk hch hr
        obtain ⟨st, vs, e1, e2, e3⟩ := aRun_seq rest (i + 1) _ _ _ hk' hl' hr
        refine ⟨fun j => if j = i then (T, g, n) else st j, fun j => if j = i then v else vs j, if_pos rfl, fun j hj1 hj2 => ?_, ?_⟩
        · by_cases e : j = i
          · subst e
            simp only [if_pos, if_neg (show ¬ j + 1 = j by omega), e1]
            exact ⟨o, b, ho, hw, hs, hsk, rfl, hch⟩
          · simp only [if_neg e, if_neg (show ¬ j + 1 = i by omega)]
            exact e2 j (by omega) hj2
        · have hne : ¬ ops.size = i := by have := (Array.getElem?_eq_some_iff.1 ho).1; omega
          simp only [if_neg hne]; exact e3
      cases b with
      | true =>
        obtain ⟨v, g', n', h1, h2, h3⟩ := aStep_step (ht rfl)
        exact build v g' n' (fun _ => h1) (fun e => by cases e) (h2.imp id fun ⟨e1, e2⟩ => by rw [e1, e2]) h3
      | false => exact build undef g n (fun e => by cases e) (fun _ => ⟨rfl, rfl⟩) (.inr rfl) (hf rfl)

theorem zipIdx_get (l : List Oper) (k : Nat) : l.zipIdx[k]? = (l[k]?).map fun o => (o, 0 + k) := by
  simp [List.getElem?_zipIdx]
end

section
variable {X : Ctx} {ops : Array Oper}
/-- A region in the text's order. -/
theorem wp_text {st : Nat → St} {vs : Nat → Value} {draw : Bool} (hdst : ∀ (i : Nat) (o : Oper) (d : Tmp), ops[i]? = some o → o.dst = some d → d < X.nt)
    (hrec : ∀ i, i < ops.size → Rec X.P X.may ops draw i (st i) (vs i) (st (i + 1)))
    {Q : Exit → Act → World → Prop} (hQ : ∀ ρ a w, Cfg X (st ops.size).1 (st ops.size).2.1 (st ops.size).2.2 ρ a w → Q .normal a w) :
    ∀ (m i : Nat), i + m = ops.size → ∀ ρ a w, Cfg X (st i).1 (st i).2.1 (st i).2.2 ρ a w → wpOps X.P ops Q (List.range' i m) a w := by
  intro m
  induction m with
  | zero => intro i hi ρ a w h; simp only [Nat.add_zero] at hi; subst hi; exact hQ ρ a w h
  | succ m ih =>
    intro i hi ρ a w h
    obtain ⟨o, b, ho, hw, hstep, hskip, hregs, _⟩ := hrec i (by omega)
    have hwant := aWanted_sound h hw
    simp only [List.range'_succ, wpOps, ho, hwant]
    cases b with
    | false =>
      simp only [Bool.false_eq_true, if_false]
      obtain ⟨hv, hsame⟩ := hskip rfl
      have hc := h.skip (dst := o.dst) (hdst i o · ho)
      refine ih (i + 1) (by omega) ρ _ _ ?_
      rw [hregs, hv, hsame]; exact hc
    | true =>
      simp only [if_true]
      refine .inl ((hstep rfl).wp h (hdst i o · ho) fun cv w' ρ' hc => ih (i + 1) (by omega) ρ' _ _ ?_)
      rw [hregs]; exact hc

/-- What is known of the machine, of what is known of the abstract state. -/
def lift (X : Ctx) (Q : APost) (e : Exit) (a : Act) (w : World) : Prop := ∃ T g n ρ, Cfg X T g n ρ a w ∧ Q e T g n

theorem region_dst {nt : Nat} {ops : Array Oper} (h : ops.all (fun o => match o.dst with | some d => decide (d < nt) | none => true) = true) (i : Nat) (o : Oper) (d : Tmp) (ho : ops[i]? = some o) (hd : o.dst = some d) : d < nt := by
  have := Array.all_eq_true_iff_forall_mem.1 h o (Array.mem_of_getElem? ho)
  simp only [hd, decide_eq_true_eq] at this
  exact this

theorem awp_sound (hm : X.P.follows .mixedOrders = true) : ∀ (c : Code) (Q : APost) (T : Regs) (g : AMem) (n : Nat), codeOk X.nt c = true → awp X.P X.may c Q T g n → ∀ ρ a w, Cfg X T g n ρ a w → c.wp X.P (lift X Q) a w := by
  intro c
  induction c with
  | skip => intro Q T g n _ h ρ a w hc; exact wp_skip ⟨T, g, n, ρ, hc, h⟩
  | label l => intro Q T g n _ h ρ a w hc; exact wp_label ⟨T, g, n, ρ, hc, h⟩
  | exit id => intro Q T g n _ h ρ a w hc; exact wp_exit ⟨T, g, n, ρ, hc, h⟩
  | ret => intro Q T g n _ h ρ a w hc; exact wp_ret ⟨T, g, n, ρ, hc, h⟩
  | region id ops draw =>
    intro Q T g n hok h ρ a w hc
    simp only [codeOk, Bool.and_eq_true] at hok
    have hdst := region_dst hok.1
    obtain ⟨st, vs, e1, e2, e3⟩ := aRun_seq (i0 := 0) ops.toList.zipIdx T g n (fun k => by rw [zipIdx_get]; simp) (by simp) h
    have h0 : (st 0).1 = T ∧ (st 0).2.1 = g ∧ (st 0).2.2 = n := by
      have := e1; rw [this]; exact ⟨rfl, rfl, rfl⟩
    have hc0 : Cfg X (st 0).1 (st 0).2.1 (st 0).2.2 ρ a w := by rw [h0.1, h0.2.1, h0.2.2]; exact hc
    have hfin : ∀ ρ a w, Cfg X (st ops.size).1 (st ops.size).2.1 (st ops.size).2.2 ρ a w → lift X Q .normal a w := fun ρ a w hc => ⟨_, _, _, ρ, hc, e3⟩
    cases draw with
    | false =>
      refine wp_region ?_
      rw [List.range_eq_range']
      exact wp_text hdst (fun i hi => e2 i (Nat.zero_le _) hi) hfin ops.size 0 (by omega) ρ a w hc0
    | true =>
      have hdok : drawOk ops = true := by simpa using hok.2
      exact wp_drawn hm hdok hdst (fun i hi => e2 i (Nat.zero_le _) hi) hc0 hfin
  | seq x y ihx ihy =>
    intro Q T g n hok h ρ a w hc
    simp only [codeOk, Bool.and_eq_true] at hok
    refine wp_seq (wp_mono (ihx _ T g n hok.1 h ρ a w hc) fun e a w hl => ?_)
    obtain ⟨T, g, n, ρ, hc, hq⟩ := hl
    cases e with
    | normal => exact ihy Q T g n hok.2 hq ρ a w hc
    | _ => exact ⟨T, g, n, ρ, hc, hq⟩
  | cond c x y ihx ihy =>
    intro Q T g n hok h ρ a w hc
    simp only [codeOk, Bool.and_eq_true] at hok
    obtain ⟨b, hb, ht, hf⟩ := h
    have hv := hc.eval c
    rw [hb] at hv
    have hcv : a.eval c = .bool b := by cases hcv : a.eval c <;> rw [hcv] at hv <;> cases hv; rfl
    refine wp_cond hcv ?_
    cases b with
    | true => exact ihx Q T g n hok.1 (ht rfl) ρ a w hc
    | false => exact ihy Q T g n hok.2 (hf rfl) ρ a w hc
  | block id b ih =>
    intro Q T g n hok h ρ a w hc
    simp only [codeOk] at hok
    refine wp_block (wp_mono (ih _ T g n hok h ρ a w hc) fun e a w hl => ?_)
    obtain ⟨T, g, n, ρ, hc, hq⟩ := hl
    cases e with
    | exit id' =>
      simp only [Exit.inBlockA] at hq
      simp only [Exit.inBlock]
      split
      · rename_i e; rw [if_pos e] at hq; exact ⟨T, g, n, ρ, hc, hq⟩
      · rename_i e; rw [if_neg e] at hq; exact ⟨T, g, n, ρ, hc, hq⟩
    | _ => exact ⟨T, g, n, ρ, hc, hq⟩
  | loop b ih =>
    intro Q T g n hok h ρ a w hc
    simp only [codeOk] at hok
    obtain ⟨k, hk⟩ := h
    refine wp_loop_rounds k ?_
    induction k generalizing T g n ρ a w with
    | zero => exact hk.elim
    | succ k ihk =>
      rw [rounds_succ]
      refine wp_mono (ih _ T g n hok hk ρ a w hc) fun e a w hl => ?_
      obtain ⟨T, g, n, ρ, hc, hq⟩ := hl
      cases e with
      | normal => exact ihk T g n ρ a w hc hq
      | _ => exact ⟨T, g, n, ρ, hc, hq⟩
  | _ => intro Q T g n _ h; exact h.elim

/-! ### More is known -/
theorem aRun_mono {P : Program} {may : Nat → Prop} {draw : Bool} {Q Q' : Regs → AMem → Nat → Prop} (hq : ∀ T g n, Q T g n → Q' T g n) : ∀ (l : List (Oper × Nat)) (T : Regs) (g : AMem) (n : Nat), aRun P may ops draw Q l T g n → aRun P may ops draw Q' l T g n
  | [], T, g, n, h => hq T g n h
  | (o, i) :: rest, T, g, n, ⟨b, h1, h2, h3⟩ => by
    refine ⟨b, h1, fun hb => ?_, fun hb => aRun_mono hq rest _ _ _ (h3 hb)⟩
    have := h2 hb
    unfold aStep at this ⊢
    split at this
    · rename_i f args hc
      obtain ⟨hf, t, v, g', n', e1, e2, e3, e4⟩ := this
      exact ⟨hf, t, v, g', n', e1, e2, e3, aRun_mono hq rest _ _ _ e4⟩
    · obtain ⟨v, ε, e1, e2, e3, e4⟩ := this
      exact ⟨v, ε, e1, e2, e3, aRun_mono hq rest _ _ _ e4⟩
theorem awp_mono {P : Program} {may : Nat → Prop} : ∀ (c : Code) {Q Q' : APost}, (∀ e T g n, Q e T g n → Q' e T g n) → ∀ T g n, awp P may c Q T g n → awp P may c Q' T g n := by
  intro c
  induction c with
  | region id ops draw => intro Q Q' hq T g n h; exact aRun_mono (hq .normal) _ T g n h
  | seq x y ihx ihy => intro Q Q' hq T g n h; exact ihx (fun e T g n h => by cases e <;> first | exact ihy hq T g n h | exact hq _ _ _ _ h) T g n h
  | cond c x y ihx ihy => intro Q Q' hq T g n ⟨b, h1, h2, h3⟩; exact ⟨b, h1, fun e => ihx hq T g n (h2 e), fun e => ihy hq T g n (h3 e)⟩
  | block id b ih =>
    intro Q Q' hq T g n h
    refine ih (fun e T g n h => ?_) T g n h
    cases e with
    | exit id' => simp only [Exit.inBlockA] at h ⊢; split <;> rename_i e <;> simp only [e, if_true, if_false] at h <;> exact hq _ _ _ _ h
    | _ => exact hq _ _ _ _ h
  | loop b ih =>
    intro Q Q' hq T g n ⟨k, h⟩
    refine ⟨k, ?_⟩
    induction k generalizing T g n with
    | zero => exact h
    | succ k ihk => exact ih (fun e T g n h => by cases e <;> first | exact ihk T g n h | exact hq _ _ _ _ h) T g n h
  | skip | label | exit | ret => intro Q Q' hq T g n h; exact hq _ _ _ _ h
  | _ => intro Q Q' hq T g n h; exact h.elim

/-- **A loop by what holds at its head**, a number going down. -/
theorem awp_loop {P : Program} {may : Nat → Prop} {b : Code} {Q : APost} (I : Nat → Regs → AMem → Nat → Prop)
    (round : ∀ k T g n, I k T g n → awp P may b (Exit.thenA (fun T g n => ∃ k', k' < k ∧ I k' T g n) Q) T g n) {k : Nat} {T : Regs} {g : AMem} {n : Nat} (h : I k T g n) : awp P may (.loop b) Q T g n := by
  suffices ∀ (k : Nat) (T : Regs) (g : AMem) (n : Nat), I k T g n → ∀ m, k < m → aRounds (awp P may b) Q m T g n from ⟨k + 1, this k T g n h _ (Nat.lt_succ_self _)⟩
  intro k
  induction k using Nat.strongRecOn with
  | _ k ih =>
    intro T g n h m hm
    obtain ⟨m, rfl⟩ : ∃ m', m = m' + 1 := ⟨m - 1, by omega⟩
    refine awp_mono b (fun e T g n h => ?_) T g n (round k T g n h)
    cases e with
    | normal =>
      obtain ⟨k', h1, h2⟩ := h
      exact ih k' h1 T g n h2 m (by omega)
    | _ => exact h
end
end Go.Proofs.YthigpfognkmegaaAbs

namespace Go.Proofs.YthigpfognkmegaaAbs
open Go Go.RowKit

/-! ### Numbers given anew -/
/-- 'v1' is 'v', its blocks' numbers (all below m) given anew. -/
inductive VRen (m : Nat) (σ : Nat → Nat) : Value → Value → Prop
  | flat (v : Value) (h : flatV v = true) : VRen m σ v v
  | junk (v : Value) : VRen m σ YthigpfognkmegaaAbs.junk v
  | ptr (b o : Nat) (h : b < m) : VRen m σ (.pointer (some ⟨b, o, none⟩)) (.pointer (some ⟨σ b, o, none⟩))
  | slice (b o k e : Nat) (h : b < m) : VRen m σ (.slice (some ⟨b, o, none⟩) k e) (.slice (some ⟨σ b, o, none⟩) k e)
  | sliceLost (a a' : Addr) (e e' : Nat) (h : a.spot = some 0) (h' : a'.spot = some 0) : VRen m σ (.slice (some a) 0 e) (.slice (some a') 0 e')
  | sliceFull (a a' : Addr) (e e' : Nat) (h : a.spot = some 1) (h' : a'.spot = some 1) : VRen m σ (.slice (some a) 0 e) (.slice (some a') 0 e')
  | map (b : Nat) (h : b < m) : VRen m σ (.map (some b)) (.map (some (σ b)))
  | iface (t : TypeId) (v v' : Value) (h : VRen m σ v v') : VRen m σ (.iface t v) (.iface t v')
  | agg (xs ys : Array Value) (hs : xs.size = ys.size) (h : ∀ (i : Nat) (h1 : i < xs.size) (h2 : i < ys.size), VRen m σ xs[i] ys[i]) : VRen m σ (.agg xs) (.agg ys)
  | tuple (xs ys : Array Value) (hs : xs.size = ys.size) (h : ∀ (i : Nat) (h1 : i < xs.size) (h2 : i < ys.size), VRen m σ xs[i] ys[i]) : VRen m σ (.tuple xs) (.tuple ys)

structure VRens (m : Nat) (σ : Nat → Nat) (xs ys : List Value) : Prop where
  len : xs.length = ys.length
  at_ : ∀ (i : Nat) (h1 : i < xs.length) (h2 : i < ys.length), VRen m σ xs[i] ys[i]
inductive ORen (m : Nat) (σ : Nat → Nat) : AObj → AObj → Prop
  | row (cs cs1 : List Value) (rw : Bool) (h : VRens m σ cs cs1) : ORen m σ (.row cs rw) (.row cs1 rw)
  | iter (s : ByteArray) (p : Nat) : ORen m σ (.iter s p) (.iter s p)

theorem VRen.rel {m : Nat} {σ : Nat → Nat} {ρ : Nat → Option Nat} {sz : Nat → Nat} {v v1 : Value} (h : VRen m σ v v1) : ∀ cv, VRel ρ sz v1 cv → VRel (fun i => if i < m then ρ (σ i) else none) sz v cv := by
  induction h with
  | flat v hf => intro cv hv; rw [flat_eq hv hf]; exact flatV_rel hf
  | junk v => intro cv _; exact .junk _
  | ptr b o hb => intro cv hv; cases hv with | ptr _ _ b' h => exact .ptr _ _ _ (by simp [hb, h])
  | slice b o k e hb => intro cv hv; cases hv with
    | slice _ _ _ _ b' c h1 h2 h3 => exact .slice _ _ _ _ _ _ (by simp [hb, h1]) h2 h3
    | sliceLost _ _ _ _ h => cases h
    | sliceFull _ _ _ h => cases h
  | sliceLost a a' e e' h h' => intro cv hv; cases hv with
    | slice => cases h'
    | sliceLost _ _ _ _ _ => exact .sliceLost _ _ _ _ h
    | sliceFull _ _ _ h2 => rw [h'] at h2; cases h2
  | sliceFull a a' e e' h h' => intro cv hv; cases hv with
    | slice => cases h'
    | sliceLost _ _ _ _ h2 => rw [h'] at h2; cases h2
    | sliceFull _ _ _ _ => exact .sliceFull _ _ _ h
  | map b hb => intro cv hv; cases hv with | map _ b' h => exact .map _ _ (by simp [hb, h])
  | iface t v v' h ih => intro cv hv; cases hv with | iface _ _ cv' h => exact .iface _ _ _ (ih _ h)
  | agg xs ys hs h ih =>
    intro cv hv
    cases hv with
    | agg _ zs hs' h' => exact .agg _ _ (hs.trans hs') fun i h1 h2 => ih i h1 (by omega) _ (h' i (by omega) h2)
  | tuple xs ys hs h ih =>
    intro cv hv
    cases hv with
    | tuple _ zs hs' h' => exact .tuple _ _ (hs.trans hs') fun i h1 h2 => ih i h1 (by omega) _ (h' i (by omega) h2)
theorem VRens.rel {m : Nat} {σ : Nat → Nat} {ρ : Nat → Option Nat} {sz : Nat → Nat} {xs ys cs : List Value} (h : VRens m σ xs ys) (h' : VRs ρ sz ys cs) : VRs (fun i => if i < m then ρ (σ i) else none) sz xs cs :=
  ⟨h.len.trans h'.len, fun i h1 h2 => (h.at_ i h1 (by rw [← h.len]; exact h1)).rel _ (h'.at_ i (by rw [← h.len]; exact h1) h2)⟩
theorem ORen.rel {m : Nat} {σ : Nat → Nat} {ρ : Nat → Option Nat} {sz : Nat → Nat} {o o1 : AObj} {co : Obj} (h : ORen m σ o o1) (h' : ORel ρ sz o1 co) : ORel (fun i => if i < m then ρ (σ i) else none) sz o co := by
  cases h with
  | row cs cs1 rw hr =>
    cases h' with
    | row _ _ c t fr hrw hl hv => exact .row _ _ _ _ _ hrw (by rw [hr.len]; exact hl) (by rw [hr.len]; exact hr.rel hv)
  | iter s p => cases h'; exact .iter s p

/-- **What a function's end is worth to its caller**: 'v1' and 'g1' of the end are 'v' and 'g', numbers given anew, and what nobody asks for any more left out. -/
def Weak (n : Nat) (g0 : AMem) (v1 : Value) (g1 : AMem) (v : Value) (g : AMem) (n' : Nat) : Prop :=
  ∃ σ : Nat → Nat, n ≤ n' ∧ (∀ i, i < n → σ i = i) ∧ (∀ i, n ≤ i → i < n' → n ≤ σ i) ∧ (∀ i j, i < n' → j < n' → σ i = σ j → i = j) ∧ VRen n' σ v v1 ∧
    (∀ i o, g i = some o → i < n' ∧ ((i < n ∧ g0 i = some o ∧ g1 i = some o) ∨ ∃ o1, g1 (σ i) = some o1 ∧ ORen n' σ o o1)) ∧ (∀ i, i < n → g0 i = none → g i = none)

/-! ### Results -/
def aRes (P : Program) (g : AMem) (T : Regs) : ResultVar → Option Value
  | .tmp t => some (T t)
  | .cell a t => aLoad P g t (T a)
def aResults (P : Program) (g : AMem) (T : Regs) (rs : List ResultVar) : Option Value := match rs with
  | [] => some (.tuple #[])
  | [r] => aRes P g T r
  | r :: s :: rest => ((r :: s :: rest).mapM (aRes P g T)).map fun vs => .tuple vs.toArray

def resOf (tmps : Array Value) : ResultVar → Sem Value
  | .tmp t => pure (tmps.getD t undef)
  | .cell a t => do loadVar t (← asAddr (tmps.getD a undef))
theorem results_eq (fn : Func) (tmps : Array Value) : results fn tmps = (do let vs ← fn.results.mapM (resOf tmps); pure (if h : vs.size = 1 then vs[0] else .tuple vs)) := by
  unfold results
  have : (fun r => match r with | .tmp t => pure (tmps.getD t undef) | .cell a t => do loadVar t (← asAddr (tmps.getD a undef)) : ResultVar → Sem Value) = resOf tmps := by
    funext r; cases r <;> rfl
  rw [← this]
  rfl
theorem aRes_sound {X : Ctx} {T : Regs} {g : AMem} {n : Nat} {ρ : Nat → Option Nat} {a : Act} {w : World} (h : Cfg X T g n ρ a w) {r : ResultVar} {v : Value} (hr : aRes X.P g T r = some v) :
    ∃ cv, (resOf a.tmps r).run X.P w = .ok cv w ∧ VRel ρ (szOf w) v cv := by
  cases r with
  | tmp t => cases hr; exact ⟨_, rfl, h.regs t⟩
  | cell x t =>
    simp only [aRes] at hr
    have hx := h.regs x
    obtain ⟨cv, h1, h2⟩ := aLoad_sound h.rep hx hr
    refine ⟨cv, ?_, h2⟩
    unfold aLoad at hr
    split at hr
    · rename_i b o he
      rw [he] at hx
      cases hcv : a.tmps.getD x undef <;> rw [hcv] at hx <;> cases hx
      rw [hcv] at h1
      simp only [resOf]
      rw [hcv]
      simpa [Instr.loadAt, Instr.sureAddr, asAddr] using h1
    · cases hr
theorem aResults_sound {X : Ctx} {T : Regs} {g : AMem} {n : Nat} {ρ : Nat → Option Nat} {a : Act} {w : World} (h : Cfg X T g n ρ a w) {fn : Func} {v : Value} (hr : aResults X.P g T fn.results.toList = some v) :
    ∃ cv, (results fn a.tmps).run X.P w = .ok cv w ∧ VRel ρ (szOf w) v cv := by
  have key : ∀ (rs : List ResultVar) (vs : List Value), rs.mapM (aRes X.P g T) = some vs →
      ∃ cvs, (rs.mapM (resOf a.tmps)).run X.P w = .ok cvs w ∧ VRs ρ (szOf w) vs cvs := by
    intro rs
    induction rs with
    | nil => intro vs hv; simp at hv; subst hv; exact ⟨[], by simp, .nil _ _⟩
    | cons r rs ih =>
      intro vs hv
      simp only [List.mapM_cons, Option.bind_eq_bind, Option.bind_eq_some_iff, Option.pure_def, Option.some.injEq] at hv
      obtain ⟨u, hu, us, hus, rfl⟩ := hv
      obtain ⟨cu, h1, h2⟩ := aRes_sound h hu
      obtain ⟨cus, h3, h4⟩ := ih us hus
      exact ⟨cu :: cus, by simp only [List.mapM_cons, Sem.run_bind, h1, Result.andThen_ok, h3, Sem.run_pure], .cons h2 h4⟩
  have hres : ∀ vs, fn.results.toList.mapM (aRes X.P g T) = some vs → ∃ cvs : List Value, (results fn a.tmps).run X.P w = .ok (if h : cvs.toArray.size = 1 then cvs.toArray[0] else .tuple cvs.toArray) w ∧ VRs ρ (szOf w) vs cvs := fun vs hv => by
    obtain ⟨cvs, h1, h2⟩ := key _ _ hv
    refine ⟨cvs, ?_, h2⟩
    rw [results_eq, Array.mapM_eq_mapM_toList]
    simp only [Sem.run_bind, Sem.run_map, h1, Result.andThen_ok, Sem.run_pure]
  unfold aResults at hr
  split at hr
  · rename_i he
    cases hr
    obtain ⟨cvs, h1, h2⟩ := hres [] (by rw [he]; rfl)
    have : cvs = [] := List.eq_nil_of_length_eq_zero h2.len.symm
    subst this
    exact ⟨_, h1, pureV_rel rfl⟩
  · rename_i r he
    obtain ⟨cvs, h1, h2⟩ := hres [v] (by rw [he]; simp [hr])
    match cvs, h2 with
    | [cv], h2 => exact ⟨_, h1, h2.at_ 0 (by simp) (by simp)⟩
    | [], h2 => have := h2.len; simp at this
    | _ :: _ :: _, h2 => have := h2.len; simp at this
  · rename_i r s rest he
    simp only [Option.map_eq_some_iff] at hr
    obtain ⟨vs, hv, rfl⟩ := hr
    obtain ⟨cvs, h1, h2⟩ := hres vs (by rw [he]; exact hv)
    have hl : vs.length = rest.length + 2 := by
      have : ∀ (rs : List ResultVar) (vs : List Value), rs.mapM (aRes X.P g T) = some vs → vs.length = rs.length := by
        intro rs
        induction rs with
        | nil => intro vs hv; simp at hv; subst hv; rfl
        | cons r rs ih =>
          intro vs hv
          simp only [List.mapM_cons, Option.bind_eq_bind, Option.bind_eq_some_iff, Option.pure_def, Option.some.injEq] at hv
          obtain ⟨u, hu, us, hus, rfl⟩ := hv
          simp [ih us hus]
      have := this _ _ hv
      simpa using this
    have hne : ¬ cvs.toArray.size = 1 := by have := h2.len; simp; omega
    rw [dif_neg hne] at h1
    exact ⟨_, h1, .tuple' (by simpa using h2)⟩

/-- What was told by 'ρ' is told by it still. -/
theorem VRel.back {ρ ρ' : Nat → Option Nat} {sz sz' : Nat → Nat} (hρ : ∀ i b, ρ i = some b → ρ' i = some b) {x cx : Value} (h : VRel ρ sz x cx) : ∀ cy, VRel ρ' sz' x cy → VRel ρ sz' x cy := by
  induction h with
  | junk cv => intro cy _; exact .junk _
  | ptr b o b' h => intro cy hy; cases hy with | ptr _ _ b'' h2 => rw [hρ _ _ h] at h2; cases h2; exact .ptr _ _ _ h
  | slice b o n e b' c h hn hc => intro cy hy; cases hy with
    | slice _ _ _ _ b'' c' h2 h3 h4 => rw [hρ _ _ h] at h2; cases h2; exact .slice _ _ _ _ _ _ h h3 h4
    | sliceLost _ a' _ c' h2 => cases h2
    | sliceFull _ a' _ h2 => cases h2
  | sliceLost a a' e c h => intro cy hy; cases hy with
    | slice => cases h
    | sliceLost _ a'' _ c' h2 => exact .sliceLost _ _ _ _ h2
    | sliceFull _ a'' _ h2 => exact .sliceFull _ _ _ h2
  | sliceFull a a' e h => intro cy hy; cases hy with
    | slice => cases h
    | sliceLost _ a'' _ c' h2 => exact .sliceLost _ _ _ _ h2
    | sliceFull _ a'' _ h2 => exact .sliceFull _ _ _ h2
  | map b b' h => intro cy hy; cases hy with | map _ b'' h2 => rw [hρ _ _ h] at h2; cases h2; exact .map _ _ h
  | func fn xs ys xs' ys' hx hy h h' ih ih' =>
    intro cy hcy
    cases hcy with
    | func _ _ _ xs'' ys'' h1 h2 h3 h4 => exact .func _ _ _ _ _ h1 h2 (fun i a b => ih i a (by omega) _ (h3 i a b)) (fun i a b => ih' i a (by omega) _ (h4 i a b))
  | iface t v v' h ih => intro cy hy; cases hy with | iface _ _ v'' h2 => exact .iface _ _ _ (ih _ h2)
  | agg xs ys hs h ih => intro cy hy; cases hy with | agg _ zs h1 h2 => exact .agg _ _ h1 fun i a b => ih i a (by omega) _ (h2 i a b)
  | tuple xs ys hs h ih => intro cy hy; cases hy with | tuple _ zs h1 h2 => exact .tuple _ _ h1 fun i a b => ih i a (by omega) _ (h2 i a b)
  | _ => intro cy hy; cases hy; constructor
theorem ORel.back {ρ ρ' : Nat → Option Nat} {sz sz' : Nat → Nat} (hρ : ∀ i b, ρ i = some b → ρ' i = some b) {o : AObj} {co co' : Obj} (h : ORel ρ sz o co) (h' : ORel ρ' sz' o co') : ORel ρ sz' o co' := by
  cases h with
  | row cs rw c t fr hrw hl hv =>
    cases h' with
    | row _ _ c' t' fr' hrw' hl' hv' =>
      refine .row _ _ _ _ _ hrw' hl' ⟨hv'.len, fun i h1 h2 => ?_⟩
      exact (hv.at_ i h1 (by rw [← hv.len]; exact h1)).back hρ _ (hv'.at_ i h1 h2)
  | map es ces clock hl hv =>
    cases h' with
    | map _ ces' clock' hl' hv' =>
      refine .map _ _ _ hl' fun i h1 h2 => ?_
      exact ⟨(hv i h1 (by omega)).1.back hρ _ (hv' i h1 h2).1, (hv i h1 (by omega)).2.back hρ _ (hv' i h1 h2).2⟩
  | iter s p => cases h'; exact .iter s p

theorem weak_trans {P : Program} {nt : Nat} {T : Regs} {ρ : Nat → Option Nat} {g : AMem} {n : Nat} {touch : Nat → Prop} {w : World} {g1 : AMem} {n1 : Nat} {ρ1 : Nat → Option Nat} {a : Act} {w' : World} {v1 cv v : Value} {g' : AMem} {n' : Nat}
    (hrep : GRep ρ g n w) (hc1 : Cfg ⟨P, nt, ρ, g, n, touch, w⟩ T g1 n1 ρ1 a w') (hr2 : VRel ρ1 (szOf w') v1 cv) (hweak : Weak n g v1 g1 v g' n') : ∃ ρ', Trans touch ρ g n w v g' n' cv w' ρ' := by
  obtain ⟨σ, w1, w2, w3, w4, w5, w6, w7⟩ := hweak
  have hext : ∀ i b, ρ i = some b → ρ1 i = some b := fun i b hi => by rw [hc1.ext i (hrep.lt hi)]; exact hi
  have hext' : ∀ i b, ρ i = some b → (fun i => if i < n' then ρ1 (σ i) else none) i = some b := fun i b hi => by
    have hlt := hrep.lt hi
    simp only [show i < n' by omega, if_true]
    rw [w2 i hlt]; exact hext i b hi
  have at_ : ∀ i o, g' i = some o → i < n' ∧ ∃ o1, g1 (σ i) = some o1 := fun i o hi => by
    obtain ⟨hlt, h | ⟨o1, h1, _⟩⟩ := w6 i o hi
    · exact ⟨hlt, o, by rw [w2 i h.1]; exact h.2.2⟩
    · exact ⟨hlt, o1, h1⟩
  refine ⟨fun i => if i < n' then ρ1 (σ i) else none, w5.rel _ hr2, ⟨?_, ?_, fun i hi => if_neg (by omega), ?_⟩, w1, ?_, hc1.frame, ?_, w7⟩
  · intro i o hi
    obtain ⟨hlt, h | ⟨o1, ho1, hren⟩⟩ := w6 i o hi
    · obtain ⟨hn, hg0, hg1⟩ := h
      obtain ⟨b, co, h1, h2, h3⟩ := hc1.rep.obj _ _ hg1
      obtain ⟨b0, co0, e1, e2, e3⟩ := hrep.obj _ _ hg0
      exact ⟨b, co, by simp [hlt, w2 i hn, h1], h2, (e3.back hext h3).mono hext' fun _ => Nat.le_refl _⟩
    · obtain ⟨b, co, h1, h2, h3⟩ := hc1.rep.obj _ _ ho1
      exact ⟨b, co, by simp [hlt, h1], h2, hren.rel h3⟩
  · intro i j b hi hj ei ej
    cases hgi : g' i with
    | none => exact absurd hgi hi
    | some oi =>
      cases hgj : g' j with
      | none => exact absurd hgj hj
      | some oj =>
        obtain ⟨li, o1, e1⟩ := at_ i oi hgi
        obtain ⟨lj, o2, e2⟩ := at_ j oj hgj
        simp only [li, lj, if_true] at ei ej
        exact w4 i j li lj (hc1.rep.inj _ _ b (by rw [e1]; simp) (by rw [e2]; simp) ei ej)
  · intro i b hi
    by_cases hl : i < n'
    · simp only [hl, if_true] at hi; exact hc1.rep.old _ _ hi
    · simp only [hl, if_false] at hi; cases hi
  · intro i hi
    have hlt : i < n' := Nat.lt_of_lt_of_le hi w1
    simp only [hlt, if_true]
    rw [w2 i hi]
    exact hc1.ext i hi
  · intro j b hj hb
    by_cases hl : j < n'
    · simp only [hl, if_true] at hb
      exact hc1.fresh (σ j) b (w3 j hj hl) hb
    · simp only [hl, if_false] at hb; cases hb

/-! ### The commonest ends -/
/-- The heap is as it was (but for what is left out), the value holds no address. -/
theorem pureV_ren {m : Nat} {σ : Nat → Nat} {v : Value} (h : pureV v = true) (hn : ∀ fn xs ys, v ≠ .func fn xs ys) : VRen m σ v v := by
  unfold pureV at h
  split at h
  · rw [List.all_eq_true] at h
    exact .agg _ _ rfl fun i h1 h2 => .flat _ (h _ (by simp))
  · rw [List.all_eq_true] at h
    exact .tuple _ _ rfl fun i h1 h2 => .flat _ (h _ (by simp))
  · exact absurd rfl (hn _ _ _)
  · exact .flat _ h
theorem flats_ren {m : Nat} {σ : Nat → Nat} {cs : List Value} (h : cs.all flatV = true) : VRens m σ cs cs :=
  ⟨rfl, fun i h1 h2 => .flat _ (List.all_eq_true.1 h _ (List.getElem_mem h1))⟩
end Go.Proofs.YthigpfognkmegaaAbs

namespace Go.Proofs.YthigpfognkmegaaAbs
open Go Go.RowKit

/-- Registers that are known. -/
abbrev RL := List (Tmp × Value)
def look (t : Tmp) : RL → Value
  | [] => junk
  | (k, v) :: r => if t = k then v else look t r
def push (d : Option Tmp) (v : Value) (l : RL) : RL := match d with
  | some d => (d, v) :: l
  | none => l
/-- Of all registers these alone. -/
def keepL (rs : List Tmp) (l : RL) : RL := rs.map fun t => (t, look t l)
abbrev regs (l : RL) : Regs := fun t => look t l

inductive RG where
  | none
  | some (t : Tmp) (want : Bool)
  | never
structure ROp where
  dst : Option Tmp
  guard : RG
  fl : Bool
  ty : TypeId
  op : Op
inductive RCode where
  | skip
  | region (ops : List ROp)
  | seq (a b : RCode)
  | cond (c : Operand) (thn els : RCode)
  | block (id : Nat) (body : RCode)
  | loop (rs : List Tmp) (body : RCode)
  | exit (id : Nat)
  | ret
  | keep (rs : List Tmp) (c : RCode)

def rguard (ops : Array Oper) (o : Oper) : RG := match o.guard with
  | none => .none
  | some (j, want) => match (ops[j]?).bind (·.dst) with
    | none => .never
    | some d => .some d want
def rops (ops : Array Oper) (draw : Bool) : List (Oper × Nat) → List ROp
  | [] => []
  | (o, i) :: rest => ⟨o.dst, rguard ops o, !draw || ordB ops i, o.type, o.op⟩ :: rops ops draw rest
/-- The code, and nothing left out of any register. -/
def comp : Code → RCode
  | .region _ ops draw => .region (rops ops draw ops.toList.zipIdx)
  | .seq a b => .seq (comp a) (comp b)
  | .cond c a b => .cond c (comp a) (comp b)
  | .block id b => .block id (comp b)
  | .loop b => .loop [] (comp b)
  | .exit id => .exit id
  | .ret => .ret
  | _ => .skip
def covered : Code → Bool
  | .region _ _ _ => true
  | .seq a b => covered a && covered b
  | .cond _ a b => covered a && covered b
  | .block _ b => covered b
  | .loop b => covered b
  | .exit _ => true
  | .ret => true
  | .skip => true
  | .label _ => true
  | _ => false
/-- Registers' notes struck. -/
def strike : RCode → RCode
  | .seq a b => .seq (strike a) (strike b)
  | .cond c a b => .cond c (strike a) (strike b)
  | .block id b => .block id (strike b)
  | .loop _ b => .loop [] (strike b)
  | .keep _ c => strike c
  | c => c

/-! ### Walking -/
abbrev RPost := Exit → RL → AMem → Nat → Prop

def rval (dst : Option Tmp) (K : RL → AMem → Nat → Prop) (l : RL) (g : AMem) (n : Nat) : Option Value → Prop
  | some v => K (push dst v l) g n
  | none => False
def reff (may : Nat → Prop) (dst : Option Tmp) (fl : Bool) (K : RL → AMem → Nat → Prop) (l : RL) (g : AMem) (n : Nat) : Option (Value × Eff) → Prop
  | some (v, .none) => K (push dst v l) g n
  | some (v, .new o) => fl = true ∧ K (push dst v l) (gset g n (some o)) (n + 1)
  | some (v, .put i o) => fl = true ∧ may i ∧ K (push dst v l) (gset g i (some o)) n
  | some (v, .move i o) => fl = true ∧ may i ∧ K (push dst v l) (gset (gset g i none) n (some o)) (n + 1)
  | none => False
def rcall (P : Program) (may : Nat → Prop) (f : FuncId) (args : List Value) (dst : Option Tmp) (fl : Bool) (K : RL → AMem → Nat → Prop) (l : RL) (g : AMem) (n : Nat) : Prop :=
  goFn P f = true ∧ ∃ t v g' n', FnC P f args g n t v g' n' ∧ (∀ i, t i → may i) ∧ (fl = true ∨ g' = g ∧ n' = n) ∧ K (push dst v l) g' n'
/-- One operation. -/
def rdo (P : Program) (may : Nat → Prop) (dst : Option Tmp) (fl : Bool) (ty : TypeId) (op : Op) (K : RL → AMem → Nat → Prop) (l : RL) (g : AMem) (n : Nat) : Prop :=
  match aCall (regs l) op with
  | some (f, args) => rcall P may f args dst fl K l g n
  | none => reff may dst fl K l g n (aOp P ty (aEval (regs l)) g n op)
def rgd (v : Value) (want : Bool) (yes no : Prop) : Prop := match v with
  | .bool b => (b = want → yes) ∧ (b = (!want) → no)
  | .tuple _ => no
  | _ => False
def rcond (v : Value) (yes no : Prop) : Prop := match v with
  | .bool b => (b = true → yes) ∧ (b = false → no)
  | _ => False
def rstep (P : Program) (may : Nat → Prop) (o : ROp) (K : RL → AMem → Nat → Prop) (l : RL) (g : AMem) (n : Nat) : Prop :=
  match o.guard with
  | .none => rdo P may o.dst o.fl o.ty o.op K l g n
  | .some t want => rgd (look t l) want (rdo P may o.dst o.fl o.ty o.op K l g n) (K (push o.dst undef l) g n)
  | .never => K (push o.dst undef l) g n
def rrun (P : Program) (may : Nat → Prop) : List ROp → (RL → AMem → Nat → Prop) → RL → AMem → Nat → Prop
  | [], Q, l, g, n => Q l g n
  | o :: rest, Q, l, g, n => rstep P may o (rrun P may rest Q) l g n

def Exit.thenR (next : RL → AMem → Nat → Prop) (Q : RPost) : RPost
  | .normal, T, g, n => next T g n
  | e, T, g, n => Q e T g n
def Exit.inBlockR (id : Nat) (Q : RPost) : RPost
  | .exit id', T, g, n => if id' = id then Q .normal T g n else Q (.exit id') T g n
  | e, T, g, n => Q e T g n
def rrounds (rs : List Tmp) (body : RPost → RL → AMem → Nat → Prop) (Q : RPost) : Nat → RL → AMem → Nat → Prop
  | 0, _, _, _ => False
  | k + 1, l, g, n => body (Exit.thenR (rrounds rs body Q k) Q) (keepL rs l) g n
def rwp (P : Program) (may : Nat → Prop) : RCode → RPost → RL → AMem → Nat → Prop
  | .skip, Q, l, g, n => Q .normal l g n
  | .region ops, Q, l, g, n => rrun P may ops (Q .normal) l g n
  | .seq a b, Q, l, g, n => rwp P may a (Exit.thenR (rwp P may b Q) Q) l g n
  | .cond c x y, Q, l, g, n => rcond (aEval (regs l) c) (rwp P may x Q l g n) (rwp P may y Q l g n)
  | .block id body, Q, l, g, n => rwp P may body (Exit.inBlockR id Q) l g n
  | .loop rs body, Q, l, g, n => ∃ k, rrounds rs (rwp P may body) Q k l g n
  | .exit id, Q, l, g, n => Q (.exit id) l g n
  | .ret, Q, l, g, n => Q .ret l g n
  | .keep rs c, Q, l, g, n => rwp P may c Q (keepL rs l) g n

section
variable {P : Program} {may : Nat → Prop}
theorem regs_push (d : Option Tmp) (v : Value) (l : RL) : regs (push d v l) = upd (regs l) d v := by
  cases d with
  | none => rfl
  | some d => funext t; simp [regs, push, upd, look]

theorem reff_spec {dst : Option Tmp} {fl : Bool} {K : RL → AMem → Nat → Prop} {l : RL} {g : AMem} {n : Nat} {r : Option (Value × Eff)} (h : reff may dst fl K l g n r) :
    ∃ v ε, r = some (v, ε) ∧ (∀ i, ε.touch i → may i) ∧ (fl = true ∨ ε = .none) ∧ K (push dst v l) (ε.mem g n) (ε.next n) := by
  match r with
  | none => exact h.elim
  | some (v, .none) => exact ⟨v, _, rfl, fun _ h => h.elim, .inr rfl, h⟩
  | some (v, .new o) => exact ⟨v, _, rfl, fun _ h => h.elim, .inl h.1, h.2⟩
  | some (v, .put i o) => exact ⟨v, _, rfl, fun j hj => by cases hj; exact h.2.1, .inl h.1, h.2.2⟩
  | some (v, .move i o) => exact ⟨v, _, rfl, fun j hj => by cases hj; exact h.2.1, .inl h.1, h.2.2⟩

theorem rrun_aRun (ops : Array Oper) (draw : Bool) {Q : RL → AMem → Nat → Prop} : ∀ (l : List (Oper × Nat)) (s : RL) (g : AMem) (n : Nat), rrun P may (rops ops draw l) Q s g n →
    aRun P may ops draw (fun T g n => ∃ s, T = regs s ∧ Q s g n) l (regs s) g n
  | [], s, g, n, h => ⟨s, rfl, h⟩
  | (o, i) :: rest, s, g, n, h => by
    simp only [rops, rrun, rstep] at h
    have flag : ∀ {b : Bool}, (!draw || ordB ops i) = b → b = true → draw = false ∨ ordB ops i = true := fun e hb => by
      subst e; simpa using hb
    have doIt : rdo P may o.dst (!draw || ordB ops i) o.type o.op (rrun P may (rops ops draw rest) Q) s g n →
        aStep P may ops draw i o (regs s) g n fun v g' n' => aRun P may ops draw (fun T g n => ∃ s, T = regs s ∧ Q s g n) rest (upd (regs s) o.dst v) g' n' := fun h => by
      unfold rdo at h
      unfold aStep
      split at h
      · rename_i f args hc
        simp only [hc]
        obtain ⟨h1, t, v, g', n', h2, h3, h4, h5⟩ := h
        exact ⟨h1, t, v, g', n', h2, h3, h4.imp (flag rfl) id, by rw [← regs_push]; exact rrun_aRun ops draw rest _ _ _ h5⟩
      · rename_i hc
        simp only [hc]
        obtain ⟨v, ε, h1, h2, h3, h4⟩ := reff_spec h
        exact ⟨v, ε, h1, h2, h3.imp (flag rfl) id, by rw [← regs_push]; exact rrun_aRun ops draw rest _ _ _ h4⟩
    have skipIt : rrun P may (rops ops draw rest) Q (push o.dst undef s) g n → aRun P may ops draw (fun T g n => ∃ s, T = regs s ∧ Q s g n) rest (upd (regs s) o.dst undef) g n := fun h => by
      rw [← regs_push]; exact rrun_aRun ops draw rest _ _ _ h
    unfold rguard at h
    simp only [aRun, aWanted]
    cases hg : o.guard with
    | none =>
      simp only [hg] at h ⊢
      exact ⟨true, rfl, fun _ => doIt h, (fun e => by cases e)⟩
    | some p =>
      obtain ⟨j, want⟩ := p
      simp only [hg] at h ⊢
      cases hd : (ops[j]?).bind (·.dst) with
      | none =>
        simp only [hd] at h ⊢
        exact ⟨false, rfl, (fun e => by cases e), fun _ => skipIt h⟩
      | some d =>
        simp only [hd] at h ⊢
        unfold rgd at h
        split at h
        · rename_i b hb
          have hb' : regs s d = .bool b := hb
          simp only [hb']
          refine ⟨b == want, rfl, fun e => doIt (h.1 (by simpa using e)), fun e => skipIt (h.2 (by cases b <;> cases want <;> simp_all))⟩
        · rename_i vs hb
          have hb' : regs s d = .tuple vs := hb
          simp only [hb']
          exact ⟨false, rfl, (fun e => by cases e), fun _ => skipIt h⟩
        · exact h.elim

/-- Less is known. -/
theorem cfg_less {X : Ctx} {l : RL} {g : AMem} {n : Nat} {ρ : Nat → Option Nat} {a : Act} {w : World} (h : Cfg X (regs l) g n ρ a w) (rs : List Tmp) : Cfg X (regs (keepL rs l)) g n ρ a w := by
  refine ⟨h.size, fun t => ?_, h.rep, h.le, h.ext, h.frame, h.fresh, h.keep, h.defers⟩
  have : regs (keepL rs l) t = regs l t ∨ regs (keepL rs l) t = junk := by
    simp only [regs, keepL]
    induction rs with
    | nil => exact .inr rfl
    | cons r rs ih =>
      simp only [List.map_cons, look]
      split
      · rename_i e; subst e; exact .inl rfl
      · exact ih
  rcases this with e | e
  · rw [e]; exact h.regs t
  · rw [e]; exact .junk _

def liftR (X : Ctx) (Q : RPost) (e : Exit) (a : Act) (w : World) : Prop := ∃ l g n ρ, Cfg X (regs l) g n ρ a w ∧ Q e l g n

/-- What fits: 'rc' is the code 'c', registers' notes aside. -/
theorem rwp_sound {X : Ctx} (hm : X.P.follows .mixedOrders = true) : ∀ (rc : RCode) (c : Code), strike rc = comp c → covered c = true → codeOk X.nt c = true →
    ∀ (Q : RPost) (l : RL) (g : AMem) (n : Nat), rwp X.P X.may rc Q l g n → ∀ ρ a w, Cfg X (regs l) g n ρ a w → c.wp X.P (liftR X Q) a w := by
  intro rc
  induction rc with
  | keep rs rc ih =>
    intro c hs hcv hok Q l g n h ρ a w hc
    exact ih c hs hcv hok Q _ g n h ρ a w (cfg_less hc rs)
  | skip =>
    intro c hs hcv hok Q l g n h ρ a w hc
    cases c <;> first | (simp [strike, comp] at hs; done) | (simp [covered] at hcv; done) | exact wp_skip ⟨l, g, n, ρ, hc, h⟩ | exact wp_label ⟨l, g, n, ρ, hc, h⟩
  | ret =>
    intro c hs hcv hok Q l g n h ρ a w hc
    cases c <;> first | (simp [strike, comp] at hs; done) | exact wp_ret ⟨l, g, n, ρ, hc, h⟩
  | exit id =>
    intro c hs hcv hok Q l g n h ρ a w hc
    cases c <;> first | (simp [strike, comp] at hs; done) | skip
    simp only [strike, comp, RCode.exit.injEq] at hs
    subst hs
    exact wp_exit ⟨l, g, n, ρ, hc, h⟩
  | region ops =>
    intro c hs hcv hok Q l g n h ρ a w hc
    cases c with
    | region id ops' draw =>
      simp only [strike, comp, RCode.region.injEq] at hs
      subst hs
      have := awp_sound (X := X) hm (.region id ops' draw) (fun e T g n => ∃ s, T = regs s ∧ Q e s g n) (regs l) g n hok (rrun_aRun ops' draw _ l g n h) ρ a w hc
      refine wp_mono this fun e a w hl => ?_
      obtain ⟨T, g, n, ρ, hc, s, rfl, hq⟩ := hl
      exact ⟨s, g, n, ρ, hc, hq⟩
    | _ => simp [strike, comp] at hs
  | seq x y ihx ihy =>
    intro c hs hcv hok Q l g n h ρ a w hc
    cases c with
    | seq cx cy =>
      simp only [strike, comp, RCode.seq.injEq] at hs
      simp only [covered, codeOk, Bool.and_eq_true] at hcv hok
      refine wp_seq (wp_mono (ihx cx hs.1 hcv.1 hok.1 _ l g n h ρ a w hc) fun e a w hl => ?_)
      obtain ⟨l, g, n, ρ, hc, hq⟩ := hl
      cases e with
      | normal => exact ihy cy hs.2 hcv.2 hok.2 Q l g n hq ρ a w hc
      | _ => exact ⟨l, g, n, ρ, hc, hq⟩
    | _ => simp [strike, comp] at hs
  | cond o x y ihx ihy =>
    intro c hs hcv hok Q l g n h ρ a w hc
    cases c with
    | cond o' cx cy =>
      simp only [strike, comp, RCode.cond.injEq] at hs
      obtain ⟨rfl, hx, hy⟩ := hs
      simp only [covered, codeOk, Bool.and_eq_true] at hcv hok
      have hv := hc.eval o
      simp only [rwp] at h
      unfold rcond at h
      split at h
      · rename_i b hb
        rw [hb] at hv
        have hcv' : a.eval o = .bool b := by cases hcv : a.eval o <;> rw [hcv] at hv <;> cases hv; rfl
        refine wp_cond hcv' ?_
        cases b with
        | true => exact ihx cx hx hcv.1 hok.1 Q l g n (h.1 rfl) ρ a w hc
        | false => exact ihy cy hy hcv.2 hok.2 Q l g n (h.2 rfl) ρ a w hc
      · exact h.elim
    | _ => simp [strike, comp] at hs
  | block id b ih =>
    intro c hs hcv hok Q l g n h ρ a w hc
    cases c with
    | block id' cb =>
      simp only [strike, comp, RCode.block.injEq] at hs
      obtain ⟨rfl, hb⟩ := hs
      simp only [covered, codeOk] at hcv hok
      refine wp_block (wp_mono (ih cb hb hcv hok _ l g n h ρ a w hc) fun e a w hl => ?_)
      obtain ⟨l, g, n, ρ, hc, hq⟩ := hl
      cases e with
      | exit id' =>
        simp only [Exit.inBlockR] at hq
        simp only [Exit.inBlock]
        split
        · rename_i e; rw [if_pos e] at hq; exact ⟨l, g, n, ρ, hc, hq⟩
        · rename_i e; rw [if_neg e] at hq; exact ⟨l, g, n, ρ, hc, hq⟩
      | _ => exact ⟨l, g, n, ρ, hc, hq⟩
    | _ => simp [strike, comp] at hs
  | loop rs b ih =>
    intro c hs hcv hok Q l g n h ρ a w hc
    cases c with
    | loop cb =>
      simp only [strike, comp, RCode.loop.injEq, true_and] at hs
      simp only [covered, codeOk] at hcv hok
      obtain ⟨k, hk⟩ := h
      refine wp_loop_rounds k ?_
      induction k generalizing l g n ρ a w with
      | zero => exact hk.elim
      | succ k ihk =>
        rw [rounds_succ]
        refine wp_mono (ih cb hs hcv hok _ _ g n hk ρ a w (cfg_less hc rs)) fun e a w hl => ?_
        obtain ⟨l, g, n, ρ, hc, hq⟩ := hl
        cases e with
        | normal => exact ihk l g n ρ a w hc hq
        | _ => exact ⟨l, g, n, ρ, hc, hq⟩
    | _ => simp [strike, comp] at hs
end
end Go.Proofs.YthigpfognkmegaaAbs

namespace Go.Proofs.YthigpfognkmegaaAbs
open Go Go.RowKit

/-- What stands of a function's text: the code made ready, where its results lie. -/
structure FnT (P : Program) (f : FuncId) (rc : RCode) (rs : List ResultVar) (na : Nat) : Prop where
  ex : ∃ fn c, P.funcs[f]? = some fn ∧ fn.body = some c ∧ strike rc = comp c ∧ covered c = true ∧ codeOk fn.ntmps c = true ∧ fn.results.toList = rs ∧ na ≤ fn.ntmps
  go : goFn P f = true

def argL : Nat → List Value → RL
  | _, [] => []
  | i, v :: vs => (i, v) :: argL (i + 1) vs
theorem argL_get : ∀ (vs : List Value) (i t : Nat), look t (argL i vs) = if i ≤ t ∧ t < i + vs.length then vs.getD (t - i) undef else junk
  | [], i, t => by simp [argL, look]; intro h1 h2; omega
  | v :: vs, i, t => by
    simp only [argL, look, argL_get vs (i + 1) t]
    by_cases e : t = i
    · subst e; simp
    · rw [if_neg e]
      by_cases h : i + 1 ≤ t ∧ t < i + 1 + vs.length
      · rw [if_pos h, if_pos (by simp; omega)]
        rw [show t - i = t - (i + 1) + 1 by omega]
        simp
      · rw [if_neg h, if_neg (by simp; omega)]

/-- A function's end. -/
def RDone (P : Program) (rs : List ResultVar) (n : Nat) (g0 : AMem) (v : Value) (g' : AMem) (n' : Nat) : RPost := fun e l g1 n1 =>
  (e = .normal ∨ e = .ret) ∧ ∃ v1, aResults P g1 (regs l) rs = some v1 ∧ (Weak n g0 v1 g1 v g' n' ∨ v1 = v ∧ g1 = g' ∧ n1 = n')

/-- **A contract out of a walk.** -/
theorem fnC_of_rwp {P : Program} {f : FuncId} {rc : RCode} {rs : List ResultVar} {na : Nat} (ht : FnT P f rc rs na) (hm : P.follows .mixedOrders = true) {args : List Value} (hna : args.length = na)
    {g : AMem} {n : Nat} {touch : Nat → Prop} {v : Value} {g' : AMem} {n' : Nat}
    (h : (∀ i, g i ≠ none → i < n) → rwp P (fun i => i < n → touch i) rc (RDone P rs n g v g' n') (argL 0 args) g n) : FnC P f args g n touch v g' n' := by
  obtain ⟨fn, c, hf, hb, hstr, hcov, hok, rfl, hnt⟩ := ht.ex
  intro ρ w cargs hrep hargs
  have hdom : ∀ i, g i ≠ none → i < n := fun i hi => by
    cases hgi : g i with
    | none => exact absurd hgi hi
    | some o => exact hrep.ltg hgi
  let X : Ctx := ⟨P, fn.ntmps, ρ, g, n, touch, w⟩
  have hsize : cargs.size = args.length := by rw [hargs.len]; simp
  have hc : Cfg X (regs (argL 0 args)) g n ρ { tmps := cargs ++ Array.replicate (fn.ntmps - cargs.size) undef, defers := [] } w := by
    refine ⟨by simp [X]; omega, fun t => ?_, hrep, Nat.le_refl _, fun _ _ => rfl, Frame0.refl _ _, fun j b hj hb => ?_, fun _ _ h => h, rfl⟩
    · rw [regs, argL_get]
      by_cases ht : t < args.length
      · rw [if_pos (by omega)]
        have := hargs.at_ t ht (by simp; omega)
        have e1 : args.getD (t - 0) undef = args[t] := by simp [List.getD_eq_getElem?_getD, ht]
        have e2 : (cargs ++ Array.replicate (fn.ntmps - cargs.size) undef).getD t undef = cargs.toList[t]'(by simp; omega) := by
          rw [Array.getD_eq_getD_getElem?, Array.getElem?_append_left (by omega), Array.getElem?_eq_getElem (by omega)]
          simp
        rw [e1, e2]; exact this
      · rw [if_neg (by omega)]; exact .junk _
    · rw [hrep.dom j hj] at hb; cases hb
  have hwp := rwp_sound (X := X) hm rc c hstr hcov hok _ _ g n (h hdom) ρ _ w hc
  refine calls_of_wp hf hb (wp_mono hwp fun e a w' hl => ?_)
  obtain ⟨l, g1, n1, ρ1, hc1, he, v1, hres, hweak⟩ := hl
  obtain ⟨cv, hr1, hr2⟩ := aResults_sound hc1 hres
  obtain ⟨ρ', hT⟩ : ∃ ρ', Trans touch ρ g n w v g' n' cv w' ρ' := by
    rcases hweak with hweak | ⟨rfl, rfl, rfl⟩
    · exact weak_trans hrep hc1 hr2 hweak
    · exact ⟨ρ1, hr2, hc1.rep, hc1.le, hc1.ext, hc1.frame, hc1.fresh, hc1.keep⟩
  rcases he with rfl | rfl
  · exact ⟨hc1.defers, cv, hr1, cv, ρ', rfl, hT⟩
  · exact ⟨hc1.defers, cv, hr1, cv, ρ', rfl, hT⟩
end Go.Proofs.YthigpfognkmegaaAbs
