/- The abstract layer, part C: no statement is proved here; abstract values, heaps and walks, and that the machine does as they say. -/
import Derived.Test.YtkcahnefekkfaaaAbsB
import Derived.ProofKit
import Derived.OpenShut
import Derived.ShutString
import Derived.ChangeOld
import Derived.SizedLaws
import Derived.Carry
import Derived.Deep.Slices
set_option linter.unusedVariables false
set_option linter.unusedSimpArgs false
set_option linter.unusedSectionVars false
namespace Go.Proofs.YtkcahnefekkfaaaAbs
open Go Go.RowKit
variable [Base]

section
variable {P : Program} {may : Nat → Prop} {Q : RPost} {l : RL} {g : AMem} {n : Nat} {K N : RL → AMem → Nat → Prop} {dst : Option Tmp} {fl : Bool} {ty : TypeId}

/-! ### Code -/
theorem rwp_skip : rwp P may .skip Q l g n = Q .normal l g n := rfl
theorem rwp_region (ops : List ROp) : rwp P may (.region ops) Q l g n = rrun P may ops (Q .normal) l g n := rfl
theorem rwp_regionD (ops : List DOp) : rwp P may (.regionD ops) Q l g n = drun P may ops (Q .normal) [] l g n := rfl
theorem rwp_seq (a b : RCode) : rwp P may (.seq a b) Q l g n = rwp P may a (Exit.thenR (rwp P may b Q) Q) l g n := rfl
theorem rwp_cond (c : Operand) (x y : RCode) : rwp P may (.cond c x y) Q l g n = rcond (aEval (regs l) c) (rwp P may x Q l g n) (rwp P may y Q l g n) := rfl
theorem rwp_block (id : Nat) (b : RCode) : rwp P may (.block id b) Q l g n = rwp P may b (Exit.inBlockR id Q) l g n := rfl
theorem rwp_exit (id : Nat) : rwp P may (.exit id) Q l g n = Q (.exit id) l g n := rfl
theorem rwp_ret : rwp P may .ret Q l g n = Q .ret l g n := rfl
theorem rwp_keep (rs : List Tmp) (c : RCode) : rwp P may (.keep rs c) Q l g n = rwp P may c Q (keepL rs l) g n := rfl
theorem thenR_normal : Exit.thenR N Q .normal l g n = N l g n := rfl
theorem thenR_normal' : Exit.thenR N Q .normal = N := rfl
theorem thenR_exit (id : Nat) : Exit.thenR N Q (.exit id) l g n = Q (.exit id) l g n := rfl
theorem thenR_ret : Exit.thenR N Q .ret l g n = Q .ret l g n := rfl
theorem inBlockR_normal (i : Nat) : Exit.inBlockR i Q .normal l g n = Q .normal l g n := rfl
theorem inBlockR_normal' (i : Nat) : Exit.inBlockR i Q .normal = Q .normal := rfl
theorem inBlockR_ret (i : Nat) : Exit.inBlockR i Q .ret l g n = Q .ret l g n := rfl
theorem inBlockR_exit (i j : Nat) : Exit.inBlockR i Q (.exit j) l g n = if j = i then Q .normal l g n else Q (.exit j) l g n := rfl
theorem keepL_nil : keepL [] l = [] := rfl
theorem keepL_cons (r : Tmp) (rs : List Tmp) : keepL (r :: rs) l = (r, look r l) :: keepL rs l := rfl
theorem look_cons (t k : Tmp) (v : Value) (r : RL) : look t ((k, v) :: r) = if t = k then v else look t r := rfl
theorem push_some (d : Tmp) (v : Value) : push (some d) v l = (d, v) :: l := rfl
theorem push_none (v : Value) : push none v l = l := rfl
theorem argL_nil (i : Nat) : argL i [] = [] := rfl
theorem argL_cons (i : Nat) (v : Value) (vs : List Value) : argL i (v :: vs) = (i, v) :: argL (i + 1) vs := rfl

theorem rwp_mono2 {may' : Nat → Prop} (hm : ∀ i, may i → may' i) : ∀ (c : RCode) {Q Q' : RPost}, (∀ e l g n, Q e l g n → Q' e l g n) → ∀ l g n, rwp P may c Q l g n → rwp P may' c Q' l g n := by
      intro c
      induction c with
      | skip => intro Q Q' hq l g n h; exact hq _ _ _ _ h
      | exit => intro Q Q' hq l g n h; exact hq _ _ _ _ h
      | ret => intro Q Q' hq l g n h; exact hq _ _ _ _ h
      | keep rs c ih => intro Q Q' hq l g n h; exact ih hq _ _ _ h
      | region ops =>
        intro Q Q' hq l g n h
        have run : ∀ (ops : List ROp) (l : RL) (g : AMem) (n : Nat), rrun P may ops (Q .normal) l g n → rrun P may' ops (Q' .normal) l g n := by
          intro ops
          induction ops with
          | nil => intro l g n h; exact hq _ _ _ _ h
          | cons o rest ih =>
            intro l g n h
            have doIt : rdo P may o.dst o.fl o.ty o.op (rrun P may rest (Q .normal)) l g n → rdo P may' o.dst o.fl o.ty o.op (rrun P may' rest (Q' .normal)) l g n := fun h => by
              unfold rdo at h ⊢
              split at h
              · obtain ⟨h1, t, v, g', n', h2, h3, h4, h5⟩ := h
                exact ⟨h1, t, v, g', n', h2, fun i hi => hm i (h3 i hi), h4, ih _ _ _ h5⟩
              · generalize aOp P o.ty (aEval (regs l)) g n o.op = r at h ⊢
                match r with
                | none => exact h
                | some (v, .none) => exact ih _ _ _ h
                | some (v, .new o) => exact ⟨h.1, ih _ _ _ h.2⟩
                | some (v, .put i o) => exact ⟨h.1, hm _ h.2.1, ih _ _ _ h.2.2⟩
                | some (v, .move i o) => exact ⟨h.1, hm _ h.2.1, ih _ _ _ h.2.2⟩
            simp only [rrun, rstep] at h ⊢
            split at h
            · exact doIt h
            · rename_i t want _
              unfold rgd at h ⊢
              split at h
              · exact ⟨fun e => doIt (h.1 e), fun e => ih _ _ _ (h.2 e)⟩
              · exact ih _ _ _ h
              · exact h
            · exact ih _ _ _ h
        exact run ops l g n h
      | regionD ops =>
        intro Q Q' hq l g n h
        have run : ∀ (ops : List DOp) (log : DLog) (l : RL) (g : AMem) (n : Nat), drun P may ops (Q .normal) log l g n → drun P may' ops (Q' .normal) log l g n := by
          intro ops
          induction ops with
          | nil => intro log l g n h; exact hq _ _ _ _ h
          | cons o rest ih =>
            intro log l g n h
            have doIt : ddo P may o.dst o.i o.un o.ty o.op (drun P may rest (Q .normal)) log l g n → ddo P may' o.dst o.i o.un o.ty o.op (drun P may' rest (Q' .normal)) log l g n := fun h => by
              unfold ddo at h ⊢
              split at h
              · obtain ⟨h1, F, W, v, h', n', h2, h3, h4, h5, h6, h7, h8⟩ := h
                exact ⟨h1, F, W, v, h', n', h2, fun x hx => ⟨(h3 x hx).1, hm x (h3 x hx).2.1, (h3 x hx).2.2⟩, h4, h5, h6, h7, ih _ _ _ _ h8⟩
              · split at h
                · rename_i hp
                  rw [if_pos hp]
                  generalize aOp P o.ty (aEval (regs l)) g n o.op = r at h ⊢
                  match r with
                  | none => exact h
                  | some (v, .none) => exact ih _ _ _ _ h
                  | some (v, .new o) => exact ⟨h.1, ih _ _ _ _ h.2⟩
                  | some (v, .put i o) => exact ⟨h.1, hm _ h.2.1, ih _ _ _ _ h.2.2⟩
                  | some (v, .move i o) => exact ⟨h.1, hm _ h.2.1, ih _ _ _ _ h.2.2⟩
                · rename_i hp
                  rw [if_neg hp]
                  generalize aOp P o.ty (aEval (regs l)) g n o.op = r at h ⊢
                  match r with
                  | none => exact h
                  | some (v, .none) => exact ⟨h.1, ih _ _ _ _ h.2⟩
                  | some (v, .new o) => exact ⟨h.1, ih _ _ _ _ h.2⟩
                  | some (v, .put i o) => exact ⟨hm _ h.1, h.2.1, ih _ _ _ _ h.2.2⟩
                  | some (v, .move i o) => exact ⟨hm _ h.1, h.2.1, ih _ _ _ _ h.2.2⟩
            simp only [drun, dstep] at h ⊢
            split at h
            · exact doIt h
            · rename_i t want _
              unfold rgd at h ⊢
              split at h
              · exact ⟨fun e => doIt (h.1 e), fun e => ih _ _ _ _ (h.2 e)⟩
              · exact ih _ _ _ _ h
              · exact h
            · exact ih _ _ _ _ h
        exact run ops [] l g n h
      | seq x y ihx ihy => intro Q Q' hq l g n h; exact ihx (fun e l g n h => by cases e <;> first | exact ihy hq l g n h | exact hq _ _ _ _ h) l g n h
      | cond c x y ihx ihy =>
        intro Q Q' hq l g n h
        simp only [rwp] at h ⊢
        unfold rcond at h ⊢
        split at h
        · exact ⟨fun e => ihx hq _ _ _ (h.1 e), fun e => ihy hq _ _ _ (h.2 e)⟩
        · exact h
      | block id b ih =>
        intro Q Q' hq l g n h
        refine ih (fun e l g n h => ?_) l g n h
        cases e with
        | exit id' => simp only [Exit.inBlockR] at h ⊢; split <;> rename_i e <;> simp only [e, if_true, if_false] at h <;> exact hq _ _ _ _ h
        | _ => exact hq _ _ _ _ h
      | loop rs b ih =>
        intro Q Q' hq l g n ⟨k, h⟩
        refine ⟨k, ?_⟩
        induction k generalizing l g n with
        | zero => exact h
        | succ k ihk => exact ih (fun e l g n h => by cases e <;> first | exact ihk l g n h | exact hq _ _ _ _ h) _ g n h
theorem rwp_mono (c : RCode) {Q Q' : RPost} (hq : ∀ e l g n, Q e l g n → Q' e l g n) (l : RL) (g : AMem) (n : Nat) (h : rwp P may c Q l g n) : rwp P may c Q' l g n := rwp_mono2 (fun _ h => h) c hq l g n h
theorem rwp_may {may' : Nat → Prop} {c : RCode} {Q : RPost} {l : RL} {g : AMem} {n : Nat} (hm : ∀ i, may i → may' i) (h : rwp P may c Q l g n) : rwp P may' c Q l g n := rwp_mono2 hm c (fun _ _ _ _ h => h) l g n h

/-- A loop by what holds at its head. -/
theorem rwp_loop {rs : List Tmp} {b : RCode} (I : Nat → RL → AMem → Nat → Prop)
    (round : ∀ k l g n, I k l g n → rwp P may b (Exit.thenR (fun l g n => ∃ k', k' < k ∧ I k' (keepL rs l) g n) Q) l g n) {k : Nat} (h : I k (keepL rs l) g n) : rwp P may (.loop rs b) Q l g n := by
  suffices ∀ (k : Nat) (l : RL) (g : AMem) (n : Nat), I k (keepL rs l) g n → ∀ m, k < m → rrounds rs (rwp P may b) Q m l g n from ⟨k + 1, this k l g n h _ (Nat.lt_succ_self _)⟩
  intro k
  induction k using Nat.strongRecOn with
  | _ k ih =>
    intro l g n h m hm
    obtain ⟨m, rfl⟩ : ∃ m', m = m' + 1 := ⟨m - 1, by omega⟩
    refine rwp_mono b (fun e l g n h => ?_) _ g n (round k _ g n h)
    cases e with
    | normal =>
      obtain ⟨k', h1, h2⟩ := h
      exact ih k' h1 l g n h2 m (by omega)
    | _ => exact h

/-! ### Tests -/
theorem rcond_true (yes no : Prop) : rcond (.bool true) yes no = yes := by simp [rcond]
theorem rcond_false (yes no : Prop) : rcond (.bool false) yes no = no := by simp [rcond]
theorem rcond_bool {b : Bool} {yes no : Prop} (h1 : b = true → yes) (h2 : b = false → no) : rcond (.bool b) yes no := ⟨h1, h2⟩
theorem rcond_dec {p : Prop} [Decidable p] {yes no : Prop} (h1 : p → yes) (h2 : ¬ p → no) : rcond (.bool (decide p)) yes no := ⟨fun h => h1 (of_decide_eq_true h), fun h => h2 (of_decide_eq_false h)⟩
theorem rgd_tt (yes no : Prop) : rgd (.bool true) true yes no = yes := by simp [rgd]
theorem rgd_tf (yes no : Prop) : rgd (.bool true) false yes no = no := by simp [rgd]
theorem rgd_ft (yes no : Prop) : rgd (.bool false) true yes no = no := by simp [rgd]
theorem rgd_ff (yes no : Prop) : rgd (.bool false) false yes no = yes := by simp [rgd]
theorem rgd_undef (want : Bool) (yes no : Prop) : rgd undef want yes no = no := rfl
theorem rgd_bool {b want : Bool} {yes no : Prop} (h1 : b = want → yes) (h2 : b = (!want) → no) : rgd (.bool b) want yes no := ⟨h1, h2⟩

/-! ### Regions -/
theorem rrun_nil : rrun P may [] K l g n = K l g n := rfl
theorem rrun_cons (o : ROp) (rest : List ROp) : rrun P may (o :: rest) K l g n = rstep P may o (rrun P may rest K) l g n := rfl
theorem rstep_none (op : Op) : rstep P may ⟨dst, .none, fl, ty, op⟩ K l g n = rdo P may dst fl ty op K l g n := rfl
theorem rstep_some (t : Tmp) (want : Bool) (op : Op) : rstep P may ⟨dst, .some t want, fl, ty, op⟩ K l g n = rgd (look t l) want (rdo P may dst fl ty op K l g n) (K (push dst undef l) g n) := rfl
theorem aEval_tmp (t : Tmp) : aEval (regs l) (.tmp t) = look t l := rfl
theorem aEval_int (k : IntKind) (m : Int) (T : Regs) : aEval T (.const (.int k m)) = .int k m := rfl
theorem aEval_bool (b : Bool) (T : Regs) : aEval T (.const (.bool b)) = .bool b := rfl
theorem aEval_string (s : ByteArray) (T : Regs) : aEval T (.const (.string s)) = .string s := rfl
theorem aEval_float (k : FloatKind) (m : Nat) (T : Regs) : aEval T (.const (.float k m)) = .float k m := rfl
theorem aEval_complex (k : FloatKind) (a b : Nat) (T : Regs) : aEval T (.const (.complex k a b)) = .complex k a b := rfl
theorem aEval_nilslice (T : Regs) : aEval T (.const (.slice none 0 0)) = .slice none 0 0 := rfl
theorem aEval_nilptr (T : Regs) : aEval T (.const (.pointer none)) = .pointer none := rfl
theorem aEval_niliface (T : Regs) : aEval T (.const .nilIface) = .nilIface := rfl
theorem aEval_agg (xs : Array Value) (T : Regs) : aEval T (.const (.agg xs)) = if xs.toList.all flatV = true then .agg xs else junk := rfl
theorem aEval_tuple (xs : Array Value) (T : Regs) : aEval T (.const (.tuple xs)) = if xs.toList.all flatV = true then .tuple xs else junk := rfl
theorem aEval_func (f : FuncId) (T : Regs) : aEval T (.func f) = .func (.func f) #[] #[] := rfl

/-! ### Operations -/
theorem rval_some (v : Value) : rval dst K l g n (some v) = K (push dst v l) g n := rfl
theorem rdo_move (x : Operand) : rdo P may dst fl ty (.move x) K l g n = K (push dst (aEval (regs l) x) l) g n := rfl
theorem rdo_assign (x : Operand) : rdo P may dst fl ty (.assign x) K l g n = K (push dst (aEval (regs l) x) l) g n := rfl
def aPick (c a b : Value) : Option Value := match c with
  | .bool t => some (if t then a else b)
  | _ => none
theorem aPick_true (a b : Value) : aPick (.bool true) a b = some a := rfl
theorem aPick_false (a b : Value) : aPick (.bool false) a b = some b := rfl
theorem aPick_bool (t x y : Bool) : aPick (.bool t) (.bool x) (.bool y) = some (.bool (if t then x else y)) := by cases t <;> rfl
theorem reff_map (r : Option Value) : reff may dst fl K l g n (r.map fun v => (v, Eff.none)) = rval dst K l g n r := by cases r <;> rfl
theorem rdo_pick (c a b : Operand) : rdo P may dst fl ty (.pick c a b) K l g n = rval dst K l g n (aPick (aEval (regs l) c) (aEval (regs l) a) (aEval (regs l) b)) := by
  simp only [rdo, aCall, aOp]
  cases aEval (regs l) c <;> rfl
theorem rdo_load (t : TypeId) (a : Operand) : rdo P may dst fl ty (.load t a) K l g n = rval dst K l g n (aLoad P g t (aEval (regs l) a)) := by
  simp only [rdo, aCall, aOp, reff_map]
theorem rdo_binOp (op : BinOp) (t t' : TypeId) (x y : Operand) : rdo P may dst fl ty (.binOp op t x y t') K l g n = rval dst K l g n (aBin P op t x y (aEval (regs l) x) (aEval (regs l) y)) := by
  simp only [rdo, aCall, aOp, reff_map]
def aUn (P : Program) (op : UnOp) (x : Value) : Option Value := if flatV x = true then pureFlat P (Op.unary op x) else none
theorem rdo_unOp (op : UnOp) (t : TypeId) (x : Operand) : rdo P may dst fl ty (.unOp op t x) K l g n = rval dst K l g n (aUn P op (aEval (regs l) x)) := by
  simp only [rdo, aCall, aOp, aUn]
  split
  · simp only [reff_map]
  · rfl
def aConv (P : Program) (src d : TypeId) (x : Value) : Option Value := if flatV x = true then pureFlat P (convert src d x) else none
theorem rdo_convert (src d : TypeId) (x : Operand) : rdo P may dst fl ty (.convert src d x) K l g n = rval dst K l g n (aConv P src d (aEval (regs l) x)) := by
  simp only [rdo, aCall, aOp, aConv]
  split
  · simp only [reff_map]
  · rfl
theorem rdo_fieldAddr (t : TypeId) (x : Operand) (i : Nat) : rdo P may dst fl ty (.fieldAddr t x i) K l g n = rval dst K l g n (aFieldAddr P t i (aEval (regs l) x)) := by
  simp only [rdo, aCall, aOp, reff_map]
theorem rdo_field (t : TypeId) (x : Operand) (i : Nat) : rdo P may dst fl ty (.field t x i) K l g n = rval dst K l g n (aField P t i (aEval (regs l) x)) := by
  simp only [rdo, aCall, aOp, reff_map]
theorem rdo_indexAddr (t : TypeId) (x i : Operand) : rdo P may dst fl ty (.indexAddr t x i) K l g n = rval dst K l g n (aIndexAddr P t (aEval (regs l) x) (aEval (regs l) i)) := by
  simp only [rdo, aCall, aOp, reff_map]
theorem rdo_index (t : TypeId) (x i : Operand) : rdo P may dst fl ty (.index t x i) K l g n = rval dst K l g n (aIndex P t (aEval (regs l) x) (aEval (regs l) i)) := by
  simp only [rdo, aCall, aOp, reff_map]
def aExtract (x : Value) (i : Nat) : Option Value := match x with
  | .tuple vs => vs.toList[i]?
  | _ => none
theorem aExtract_tuple (vs : Array Value) (i : Nat) : aExtract (.tuple vs) i = vs.toList[i]? := rfl
theorem rdo_extract (x : Operand) (i : Nat) : rdo P may dst fl ty (.extract x i) K l g n = rval dst K l g n (aExtract (aEval (regs l) x) i) := by
  simp only [rdo, aCall, aOp, aExtract]
  cases aEval (regs l) x <;> simp only [reff_map] <;> rfl
def aNilCheck (x : Value) : Option Value := match x with
  | .pointer (some a) => some (.pointer (some a))
  | .func (.func f) xs ys => some (.func (.func f) xs ys)
  | _ => none
theorem aNilCheck_ptr (a : Addr) : aNilCheck (.pointer (some a)) = some (.pointer (some a)) := rfl
theorem aNilCheck_func (f : FuncId) (xs ys : Array Value) : aNilCheck (.func (.func f) xs ys) = some (.func (.func f) xs ys) := rfl
theorem rdo_nilCheck (x : Operand) : rdo P may dst fl ty (.nilCheck x) K l g n = rval dst K l g n (aNilCheck (aEval (regs l) x)) := by
  simp only [rdo, aCall, aOp, aNilCheck]
  split <;> simp_all <;> rfl
theorem rdo_box (t : TypeId) (x : Operand) : rdo P may dst fl ty (.box t x) K l g n = (isJunk (aEval (regs l) x) = false ∧ fl = true ∧ K (push dst (.pointer (some ⟨n, 0, none⟩)) l) (gset g n (some (.row (aEval (regs l) x).cells.toList true))) (n + 1)) := by
  simp only [rdo, aCall, aOp]
  split
  · rename_i h; simp only [h, true_and]; rfl
  · rename_i h; simp [h, reff]
theorem rdo_alloc (t : TypeId) : rdo P may dst fl ty (.alloc t) K l g n = reff may dst fl K l g n ((zeroFlat P t).map fun z => (.pointer (some ⟨n, 0, none⟩), .new (.row z true))) := rfl
theorem reff_none (v : Value) : reff may dst fl K l g n (some (v, .none)) = K (push dst v l) g n := rfl
theorem reff_new (v : Value) (o : AObj) : reff may dst fl K l g n (some (v, .new o)) = (fl = true ∧ K (push dst v l) (gset g n (some o)) (n + 1)) := rfl
theorem reff_put (v : Value) (i : Nat) (o : AObj) : reff may dst fl K l g n (some (v, .put i o)) = (fl = true ∧ may i ∧ K (push dst v l) (gset g i (some o)) n) := rfl
theorem reff_move (v : Value) (i : Nat) (o : AObj) : reff may dst fl K l g n (some (v, .move i o)) = (fl = true ∧ may i ∧ K (push dst v l) (gset (gset g i none) n (some o)) (n + 1)) := rfl
theorem rdo_store (t : TypeId) (a v : Operand) : rdo P may dst fl ty (.store t a v) K l g n = reff may dst fl K l g n ((aStore P g t (aEval (regs l) v) (aEval (regs l) a)).map fun ε => (undef, ε)) := rfl
theorem rdo_buildSlice (t : TypeId) (len : Nat) (parts : Array (Nat × Operand)) : rdo P may dst fl ty (.buildSlice t len parts) K l g n = reff may dst fl K l g n (aOp P ty (aEval (regs l)) g n (.buildSlice t len parts)) := rfl
theorem rdo_build (t : TypeId) (parts : Array (Nat × Operand)) : rdo P may dst fl ty (.build t parts) K l g n = reff may dst fl K l g n (aOp P ty (aEval (regs l)) g n (.build t parts)) := rfl
theorem rdo_makeSlice (t : TypeId) (x c : Operand) : rdo P may dst fl ty (.makeSlice t x c) K l g n = reff may dst fl K l g n (aMake P n t (aEval (regs l) x) (aEval (regs l) c)) := rfl
theorem rdo_slice (t : TypeId) (x : Operand) (lo hi mx : Option Operand) : rdo P may dst fl ty (.slice t x lo hi mx) K l g n = reff may dst fl K l g n (aOp P ty (aEval (regs l)) g n (.slice t x lo hi mx)) := rfl
theorem rdo_makeFunc (fn : Fn) (xs ys : Array Operand) : rdo P may dst fl ty (.makeFunc fn xs ys) K l g n = K (push dst (.func fn (xs.map (aEval (regs l))) (ys.map (aEval (regs l)))) l) g n := rfl
theorem rdo_len (x : Operand) (t : TypeId) : rdo P may dst fl ty (.call { callee := .builtin .len, args := #[x], argTypes := #[t] }) K l g n = rval dst K l g n (aLen P t (aEval (regs l) x)) := by
  simp only [rdo, aCall, aOp, aBuiltin, reff_map]
theorem rdo_append (s x : Operand) (t : TypeId) : rdo P may dst fl ty (.call { callee := .builtin .append, args := #[s, x], argTypes := #[t, t] }) K l g n = reff may dst fl K l g n (aAppend P g n t (aEval (regs l) s) (aEval (regs l) x)) := by
  simp only [rdo, aCall, aOp, aBuiltin, if_true]
theorem rdo_copy (d s : Operand) (t t' : TypeId) : rdo P may dst fl ty (.call { callee := .builtin .copy, args := #[d, s], argTypes := #[t, t'] }) K l g n = reff may dst fl K l g n (aCopy P g t (aEval (regs l) d) (aEval (regs l) s)) := rfl
theorem rdo_builtin (b : Builtin) (args : Array Operand) (ts : Array TypeId) : rdo P may dst fl ty (.call { callee := .builtin b, args := args, argTypes := ts }) K l g n = reff may dst fl K l g n (aBuiltin P g n ty (aEval (regs l)) b args ts) := rfl
/-- A call of a Go function that is named. -/
theorem rdo_call (f : FuncId) (args : Array Operand) (ts : Array TypeId) : rdo P may dst fl ty (.call { callee := .value (.func f), args := args, argTypes := ts }) K l g n = rcall P may f (args.toList.map (aEval (regs l))) dst fl K l g n := by
  simp [rdo, aCall, aEval]
/-- A call that leaves the heap as it is. -/
theorem rcall_quiet {f : FuncId} {args : List Value} {v : Value} (hf : goFn P f = true) (h : FnC P f args g n (fun _ => False) v g n) (hK : K (push dst v l) g n) : rcall P may f args dst fl K l g n :=
  ⟨hf, _, v, g, n, h, fun _ h => h.elim, .inr ⟨rfl, rfl⟩, hK⟩
/-- A call that makes blocks, and may write some. -/
theorem rcall_new {f : FuncId} {args : List Value} {t : Nat → Prop} {v : Value} {g' : AMem} {n' : Nat} (hf : goFn P f = true) (h : FnC P f args g n t v g' n') (ht : ∀ i, t i → may i) (hfl : fl = true) (hK : K (push dst v l) g' n') : rcall P may f args dst fl K l g n :=
  ⟨hf, t, v, g', n', h, ht, .inl hfl, hK⟩
theorem gset_if (i : Nat) (o : Option AObj) (j : Nat) : gset g i o j = if j = i then o else g j := rfl

/-! ### Arithmetic -/
section
variable {k : IntKind} {a b : Int} {t : TypeId} {xo yo : Operand}
theorem aBin_pure {op : BinOp} {x y v : Value} (hx : pureV x = true) (hy : pureV y = true) (hg : eqGuard op t xo yo x y = (pure () : Sem Unit)) (h : Sem.pureRun P (binOp op t x y) = some v) (hv : pureV v = true) : aBin P op t xo yo x y = some v := by
  simp only [aBin, hx, hy, and_self, if_true, pureFlat, hg]
  show (match Sem.pureRun P (binOp op t x y) with | some v => if pureV v = true then some v else none | none => none) = some v
  rw [h]
  simp [hv]
theorem bin_add : aBin P .add t xo yo (.int k a) (.int k b) = some (.int k (k.wrap (a + b))) := aBin_pure rfl rfl rfl (by simp [binOp, Op.intArith, Sem.pureRun_pure]) rfl
theorem bin_sub : aBin P .sub t xo yo (.int k a) (.int k b) = some (.int k (k.wrap (a - b))) := aBin_pure rfl rfl rfl (by simp [binOp, Op.intArith, Sem.pureRun_pure]) rfl
theorem bin_mul : aBin P .mul t xo yo (.int k a) (.int k b) = some (.int k (k.wrap (a * b))) := aBin_pure rfl rfl rfl (by simp [binOp, Op.intArith, Sem.pureRun_pure]) rfl
theorem bin_quo (h : b ≠ 0) : aBin P .quo t xo yo (.int k a) (.int k b) = some (.int k (k.wrap (a.tdiv b))) := aBin_pure rfl rfl rfl (by simp [binOp, Op.intDiv, h, Sem.pureRun_pure]) rfl
theorem bin_rem (h : b ≠ 0) : aBin P .rem t xo yo (.int k a) (.int k b) = some (.int k (a.tmod b)) := aBin_pure rfl rfl rfl (by simp [binOp, Op.intDiv, h, Sem.pureRun_pure]) rfl
theorem bin_eql : aBin P .eql t xo yo (.int k a) (.int k b) = some (.bool (decide (a = b))) := aBin_pure rfl rfl rfl (by simp [binOp, Op.intCmp, Sem.pureRun_pure]; rfl) rfl
theorem bin_neq : aBin P .neq t xo yo (.int k a) (.int k b) = some (.bool (decide (a ≠ b))) := aBin_pure rfl rfl rfl (by simp [binOp, Op.intCmp, Sem.pureRun_pure]; by_cases h : a = b <;> simp [h]) rfl
theorem bin_lss : aBin P .lss t xo yo (.int k a) (.int k b) = some (.bool (decide (a < b))) := aBin_pure rfl rfl rfl (by simp [binOp, Op.intCmp, Sem.pureRun_pure]) rfl
theorem bin_leq : aBin P .leq t xo yo (.int k a) (.int k b) = some (.bool (decide (a ≤ b))) := aBin_pure rfl rfl rfl (by simp [binOp, Op.intCmp, Sem.pureRun_pure]) rfl
theorem bin_gtr : aBin P .gtr t xo yo (.int k a) (.int k b) = some (.bool (decide (b < a))) := aBin_pure rfl rfl rfl (by simp [binOp, Op.intCmp, Sem.pureRun_pure]) rfl
theorem bin_geq : aBin P .geq t xo yo (.int k a) (.int k b) = some (.bool (decide (b ≤ a))) := aBin_pure rfl rfl rfl (by simp [binOp, Op.intCmp, Sem.pureRun_pure]) rfl
theorem bin_shl {k' : IntKind} (h : 0 ≤ b) : aBin P .shl t xo yo (.int k a) (.int k' b) = some (.int k (k.wrap (a * 2 ^ (min b.toNat k.bits)))) := aBin_pure rfl rfl rfl (by simp [binOp, Op.shift, show ¬ b < 0 by omega, Sem.pureRun_pure]) rfl
theorem bin_shr {k' : IntKind} (h : 0 ≤ b) : aBin P .shr t xo yo (.int k a) (.int k' b) = some (.int k (a.fdiv (2 ^ (min b.toNat k.bits)))) := aBin_pure rfl rfl rfl (by simp [binOp, Op.shift, show ¬ b < 0 by omega, Sem.pureRun_pure]) rfl
def bAnd (k : IntKind) (a b : Int) : Int := k.wrap (BitVec.ofInt k.bits a &&& BitVec.ofInt k.bits b).toNat
def bOr (k : IntKind) (a b : Int) : Int := k.wrap (BitVec.ofInt k.bits a ||| BitVec.ofInt k.bits b).toNat
def bXor (k : IntKind) (a b : Int) : Int := k.wrap (BitVec.ofInt k.bits a ^^^ BitVec.ofInt k.bits b).toNat
def bAndNot (k : IntKind) (a b : Int) : Int := k.wrap (BitVec.ofInt k.bits a &&& ~~~ BitVec.ofInt k.bits b).toNat
theorem bin_and : aBin P .and t xo yo (.int k a) (.int k b) = some (.int k (bAnd k a b)) := aBin_pure rfl rfl rfl (by simp [binOp, Op.intBits, Sem.pureRun_pure, bAnd]) rfl
theorem bin_or : aBin P .or t xo yo (.int k a) (.int k b) = some (.int k (bOr k a b)) := aBin_pure rfl rfl rfl (by simp [binOp, Op.intBits, Sem.pureRun_pure, bOr]) rfl
theorem bin_xor : aBin P .xor t xo yo (.int k a) (.int k b) = some (.int k (bXor k a b)) := aBin_pure rfl rfl rfl (by simp [binOp, Op.intBits, Sem.pureRun_pure, bXor]) rfl
theorem bin_andNot : aBin P .andNot t xo yo (.int k a) (.int k b) = some (.int k (bAndNot k a b)) := aBin_pure rfl rfl rfl (by simp [binOp, Op.intBits, Sem.pureRun_pure, bAndNot]) rfl
end
end
end Go.Proofs.YtkcahnefekkfaaaAbs
namespace Go.Proofs.YtkcahnefekkfaaaAbs
open Go Go.RowKit
variable [Base]
section
variable {P : Program} {may : Nat → Prop} {l : RL} {g : AMem} {n : Nat} {K : RL → AMem → Nat → Prop} {dst : Option Tmp} {fl : Bool} {ty : TypeId}
theorem rdo_buildS {t : TypeId} {parts : Array (Nat × Operand)} {z : List Value} {pl : List (Nat × Nat)} (hz : zeroFlat P t = some z) (hp : tplaces P t = some pl) :
    rdo P may dst fl ty (.build t parts) K l g n = rval dst K l g n ((aFill (fun i => pl[i]?) z (parts.toList.map fun p => (p.1, aEval (regs l) p.2))).map fun cs => .agg cs.toArray) := by
  have hu : ∃ fs, P.underlying t = some (.struct fs) := by
    unfold tplaces at hp
    split at hp
    · rename_i fs h; exact ⟨fs, h⟩
    · cases hp
  obtain ⟨fs, hu⟩ := hu
  rw [rdo_build]
  simp only [aOp, hz, hu, hp]
  cases aFill (fun i => pl[i]?) z (parts.toList.map fun p => (p.1, aEval (regs l) p.2)) <;> rfl
theorem rdo_buildA {t : TypeId} {parts : Array (Nat × Operand)} {z : List Value} {m el s : Nat} (hz : zeroFlat P t = some z) (hu : P.underlying t = some (.array m el)) (hs : tsize P el = some s) :
    rdo P may dst fl ty (.build t parts) K l g n = rval dst K l g n ((aFill (fun i => some (i * s, s)) z (parts.toList.map fun p => (p.1, aEval (regs l) p.2))).map fun cs => .agg cs.toArray) := by
  rw [rdo_build]
  simp only [aOp, hz, hu, hs]
  cases aFill (fun i => some (i * s, s)) z (parts.toList.map fun p => (p.1, aEval (regs l) p.2)) <;> rfl
theorem rdo_buildSliceA {t : TypeId} {len : Nat} {parts : Array (Nat × Operand)} {z : List Value} {el s : Nat} (hu : P.underlying t = some (.slice el)) (hz : zeroFlat P el = some z) (hs : tsize P el = some s) (hl : z.length = s) (hb : len * s ≤ 16777216) :
    rdo P may dst fl ty (.buildSlice t len parts) K l g n = reff may dst fl K l g n ((aFill (fun i => some (i * s, s)) (zeroRow z len) (parts.toList.map fun p => (p.1, aEval (regs l) p.2))).map fun cs => (.slice (some ⟨n, 0, none⟩) len s, .new (.row cs true))) := by
  rw [rdo_buildSlice]
  simp only [aOp, hu, hz, hs, hl, hb, and_self, if_true]
theorem aFill_nil (place : Nat → Option (Nat × Nat)) (cells : List Value) : aFill place cells [] = some cells := rfl
theorem aFill_cons {place : Nat → Option (Nat × Nat)} {cells : List Value} {i : Nat} {v : Value} {rest : List (Nat × Value)} {off size : Nat} (hp : place i = some (off, size)) (h1 : v.cells.toList.length = size) (h2 : off + size ≤ cells.length) (h3 : isJunk v = false) :
    aFill place cells ((i, v) :: rest) = aFill place (splice cells off v.cells.toList) rest := by
  simp only [aFill, hp, h1, h2, h3, and_self, if_true]

/-- A function's end with a value that holds no address; nothing that was there has turned. -/
theorem done_pure {rs : List ResultVar} {g0 : AMem} {n0 : Nat} {v : Value} {g1 : AMem} {n1 : Nat} {l : RL} (hd : ∀ i, g0 i ≠ none → i < n0) (hr : aResults P g1 (regs l) rs = some v) (hv : VRen n0 id v v) (hg : ∀ i, i < n0 → g1 i = g0 i) : RDone P rs n0 g0 v g0 n0 .ret l g1 n1 := by
  refine ⟨.inr rfl, v, hr, .inl ⟨id, Nat.le_refl _, fun _ _ => rfl, fun i h1 h2 => h1, fun i j _ _ h => h, hv, fun i o hi => ?_, fun i hi h => h⟩⟩
  have hlt := hd i (by rw [hi]; simp)
  exact ⟨hlt, .inl ⟨hlt, hi, by rw [hg i hlt]; exact hi⟩⟩
end
end Go.Proofs.YtkcahnefekkfaaaAbs

namespace Go.Proofs.YtkcahnefekkfaaaAbs
open Go Go.RowKit
variable [Base]

section
variable {P : Program} {may : Nat → Prop} {l : RL} {g : AMem} {n : Nat} {K : RL → AMem → Nat → Prop} {dst : Option Tmp} {fl : Bool} {ty : TypeId}
/-- An element, if it is there. -/
def nth : List Value → Nat → Option Value
  | [], _ => none
  | v :: _, 0 => some v
  | _ :: vs, i + 1 => nth vs i
theorem nth_eq : ∀ (cs : List Value) (i : Nat), cs[i]? = nth cs i
  | [], i => rfl
  | v :: vs, 0 => rfl
  | v :: vs, i + 1 => by simp [nth, nth_eq vs i]
theorem nth_cons (v : Value) (vs : List Value) (i : Nat) : nth (v :: vs) i = if i = 0 then some v else nth vs (i - 1) := by
  cases i <;> simp [nth]
theorem isJunk_bool (b : Bool) : isJunk (.bool b) = false := rfl
theorem isJunk_int (k : IntKind) (a : Int) : isJunk (.int k a) = false := rfl
theorem isJunk_float (k : FloatKind) (a : Nat) : isJunk (.float k a) = false := rfl
theorem isJunk_complex (k : FloatKind) (a b : Nat) : isJunk (.complex k a b) = false := rfl
theorem isJunk_string (s : ByteArray) : isJunk (.string s) = false := rfl
theorem isJunk_pointer (a : Option Addr) : isJunk (.pointer a) = false := rfl
theorem isJunk_slice (a : Option Addr) (b c : Nat) : isJunk (.slice a b c) = false := rfl
theorem isJunk_func (f : Fn) (a b : Array Value) : isJunk (.func f a b) = false := rfl
theorem isJunk_map (a : Option Nat) : isJunk (.map a) = false := rfl
theorem isJunk_iface (t : TypeId) (v : Value) : isJunk (.iface t v) = false := rfl
theorem isJunk_niliface : isJunk .nilIface = false := rfl
theorem isJunk_agg (a : Array Value) : isJunk (.agg a) = false := rfl
theorem isJunk_tuple (a : Array Value) : isJunk (.tuple a) = false := rfl
theorem cells_bool (b : Bool) : (Value.bool b).cells = #[.bool b] := rfl
theorem cells_int (k : IntKind) (a : Int) : (Value.int k a).cells = #[.int k a] := rfl
theorem cells_float (k : FloatKind) (a : Nat) : (Value.float k a).cells = #[.float k a] := rfl
theorem cells_complex (k : FloatKind) (a b : Nat) : (Value.complex k a b).cells = #[.complex k a b] := rfl
theorem cells_string (s : ByteArray) : (Value.string s).cells = #[.string s] := rfl
theorem cells_pointer (a : Option Addr) : (Value.pointer a).cells = #[.pointer a] := rfl
theorem cells_slice (a : Option Addr) (b c : Nat) : (Value.slice a b c).cells = #[.slice a b c] := rfl
theorem cells_func (f : Fn) (a b : Array Value) : (Value.func f a b).cells = #[.func f a b] := rfl
theorem cells_map (a : Option Nat) : (Value.map a).cells = #[.map a] := rfl
theorem cells_iface (t : TypeId) (v : Value) : (Value.iface t v).cells = #[.iface t v] := rfl
theorem cells_niliface : (Value.nilIface).cells = #[.nilIface] := rfl
theorem cells_agg (a : Array Value) : (Value.agg a).cells = a := rfl
theorem cellOk_bool (b : Bool) : cellOk (.bool b) = true := rfl
theorem cellOk_int (k : IntKind) (a : Int) : cellOk (.int k a) = true := rfl
theorem cellOk_float (k : FloatKind) (a : Nat) : cellOk (.float k a) = true := rfl
theorem cellOk_complex (k : FloatKind) (a b : Nat) : cellOk (.complex k a b) = true := rfl
theorem cellOk_string (s : ByteArray) : cellOk (.string s) = true := rfl
theorem cellOk_pointer (a : Option Addr) : cellOk (.pointer a) = true := rfl
theorem cellOk_slice (a : Option Addr) (b c : Nat) : cellOk (.slice a b c) = true := rfl
theorem cellOk_func (f : Fn) (a b : Array Value) : cellOk (.func f a b) = true := rfl
theorem cellOk_map (a : Option Nat) : cellOk (.map a) = true := rfl
theorem cellOk_iface (t : TypeId) (v : Value) : cellOk (.iface t v) = true := rfl
theorem cellOk_niliface : cellOk .nilIface = true := rfl
/-! ### Memory, step by step -/
def aLoadR (x : Option AObj) (ag : Option Bool) (k : Option Nat) (o : Nat) : Option Value := match x with
  | some (.row cs _) => match ag with
    | some true => match k with
      | some k => if o + k ≤ cs.length then some (.agg ((cs.drop o).take k).toArray) else none
      | none => none
    | some false => cs[o]?
    | none => none
  | _ => none
theorem aLoad_eq (t : TypeId) (b o : Nat) : aLoad P g t (.pointer (some ⟨b, o, none⟩)) = aLoadR (g b) (tagg P t) (tsize P t) o := by
  unfold aLoad aLoadR
  simp only
  generalize g b = x
  cases x with
  | none => rfl
  | some x => cases x with
    | row cs r => cases tagg P t with
      | none => rfl
      | some ag => cases ag <;> cases tsize P t <;> rfl
    | _ => rfl
theorem aLoadR_one (cs : List Value) (rw_ : Bool) (k : Option Nat) (o : Nat) : aLoadR (some (.row cs rw_)) (some false) k o = nth cs o := nth_eq cs o
theorem aLoadR_agg (cs : List Value) (rw_ : Bool) (k o : Nat) : aLoadR (some (.row cs rw_)) (some true) (some k) o = if o + k ≤ cs.length then some (.agg ((cs.drop o).take k).toArray) else none := rfl
def aStoreR (x : Option AObj) (k : Option Nat) (v : Value) (b o : Nat) : Option Eff := match x with
  | some (.row cs true) => if k = some v.cells.size ∧ v.cells.toList.all cellOk = true ∧ o + v.cells.toList.length ≤ cs.length then some (.put b (.row (splice cs o v.cells.toList) true)) else none
  | _ => none
theorem aStore_eq (t : TypeId) (v : Value) (b o : Nat) : aStore P g t v (.pointer (some ⟨b, o, none⟩)) = aStoreR (g b) (tsize P t) v b o := by
  unfold aStore aStoreR
  cases hg : g b with
  | none => simp [hg]
  | some x => cases x with
    | row cs r => cases r <;> simp [hg]
    | _ => simp [hg]
theorem aStoreR_row (cs : List Value) (k : Option Nat) (v : Value) (b o : Nat) : aStoreR (some (.row cs true)) k v b o = if k = some v.cells.size ∧ v.cells.toList.all cellOk = true ∧ o + v.cells.toList.length ≤ cs.length then some (.put b (.row (splice cs o v.cells.toList) true)) else none := rfl
def aFieldAddrR (x : Option (TypeId × Nat)) (b o : Nat) : Option Value := match x with
  | some (_, off) => some (.pointer (some ⟨b, o + off, none⟩))
  | none => none
theorem aFieldAddr_eq (t : TypeId) (i b o : Nat) : aFieldAddr P t i (.pointer (some ⟨b, o, none⟩)) = aFieldAddrR (tfield P t i) b o := rfl
theorem aFieldAddrR_some (t : TypeId) (off b o : Nat) : aFieldAddrR (some (t, off)) b o = some (.pointer (some ⟨b, o + off, none⟩)) := rfl
/-- Parts of structs: by the field's own numbers. -/
def tfield' (P : Program) (t : TypeId) (i : Nat) : Option (TypeId × Nat) := match P.underlying t with
  | some (.struct fs) => (fs[i]?).map fun f => (f.type, f.offset)
  | _ => none
def aFieldR (P : Program) (x : Option (TypeId × Nat)) (cs : List Value) : Option Value := match x with
  | some (t, off) => aPart P t cs off
  | none => none
theorem aField_eq (t : TypeId) (i : Nat) (cs : Array Value) : aField P t i (.agg cs) = aFieldR P (tfield' P t i) cs.toList := by
  unfold aField aFieldR tfield'
  cases hu : P.underlying t with
  | none => simp [hu]
  | some d => cases d with
    | struct fs => simp only [hu]; cases hf : fs[i]? <;> simp [hf]
    | _ => simp [hu]
theorem aFieldR_some (t : TypeId) (off : Nat) (cs : List Value) : aFieldR P (some (t, off)) cs = aPart P t cs off := rfl
def aPartR (ag : Option Bool) (k : Option Nat) (cs : List Value) (off : Nat) : Option Value := match ag with
  | some true => match k with
    | some k => if off + k ≤ cs.length then some (.agg ((cs.drop off).take k).toArray) else none
    | none => none
  | some false => cs[off]?
  | none => none
theorem aPart_eq (t : TypeId) (cs : List Value) (off : Nat) : aPart P t cs off = aPartR (tagg P t) (tsize P t) cs off := rfl
theorem aPartR_one (k : Option Nat) (cs : List Value) (off : Nat) : aPartR (some false) k cs off = nth cs off := nth_eq cs off
theorem aPartR_agg (k : Nat) (cs : List Value) (off : Nat) : aPartR (some true) (some k) cs off = if off + k ≤ cs.length then some (.agg ((cs.drop off).take k).toArray) else none := rfl

/-- The address of an element: of a slice, of an array. -/
def aIndexAddrR (P : Program) (u : Option TypeDesc) (x : Value) (i : Int) : Option Value := match u, x with
  | some (.slice el), .slice (some ⟨b, o, none⟩) n e => if tsize P el = some e ∧ 0 ≤ i ∧ i < n then some (.pointer (some ⟨b, o + i.toNat * e, none⟩)) else none
  | some (.array n el), .pointer (some ⟨b, o, none⟩) => match tsize P el with
    | some e => if 0 ≤ i ∧ i < n then some (.pointer (some ⟨b, o + i.toNat * e, none⟩)) else none
    | none => none
  | _, _ => none
theorem aIndexAddr_eq (t : TypeId) (x : Value) (k : IntKind) (i : Int) : aIndexAddr P t x (.int k i) = aIndexAddrR P (P.underlying t) x i := rfl
theorem aIndexAddrR_slice (el b o n e : Nat) (i : Int) : aIndexAddrR P (some (.slice el)) (.slice (some ⟨b, o, none⟩) n e) i = if tsize P el = some e ∧ 0 ≤ i ∧ i < n then some (.pointer (some ⟨b, o + i.toNat * e, none⟩)) else none := rfl
theorem aIndexAddrR_array {n el b o e : Nat} (i : Int) (h : tsize P el = some e) : aIndexAddrR P (some (.array n el)) (.pointer (some ⟨b, o, none⟩)) i = if 0 ≤ i ∧ i < n then some (.pointer (some ⟨b, o + i.toNat * e, none⟩)) else none := by
  simp only [aIndexAddrR, h]

/-! ### len -/
def aLenR (u : Option TypeDesc) (x : Value) : Option Value := match u, x with
  | some .string, .string s => some (.int .i64 s.size)
  | some (.array n _), _ => some (.int .i64 n)
  | some (.slice _), .slice _ n _ => some (.int .i64 n)
  | _, _ => none
theorem aLen_eq (t : TypeId) (x : Value) : aLen P t x = aLenR (P.underlying t) x := rfl
theorem aLenR_slice (el : Nat) (a : Option Addr) (n e : Nat) : aLenR (some (.slice el)) (.slice a n e) = some (.int .i64 n) := rfl
theorem aLenR_array (n el : Nat) (x : Value) : aLenR (some (.array n el)) x = some (.int .i64 n) := by cases x <;> rfl
theorem aLenR_string (s : ByteArray) : aLenR (some .string) (.string s) = some (.int .i64 s.size) := rfl

/-! ### Bits, conversions -/
theorem un_not (b : Bool) : aUn P .not (.bool b) = some (.bool !b) := by simp [aUn, flatV, pureFlat, Op.unary, Sem.pureRun_pure, pureV]
theorem un_neg (k : IntKind) (a : Int) : aUn P .neg (.int k a) = some (.int k (k.wrap (0 - a))) := by simp [aUn, flatV, pureFlat, Op.unary, Op.intArith, Sem.pureRun_pure, pureV]
/-- A conversion between whole numbers. -/
theorem pureRun_underlying {α : Type} {t : TypeId} {d : TypeDesc} (h : P.underlying t = some d) (f : TypeDesc → Sem α) : Sem.pureRun P (underlying t >>= f) = Sem.pureRun P (f d) := by
  simp only [underlying]
  show Sem.pureRun P ((match P.underlying t with | some d => pure d | none => stuck "no such type") >>= f) = _
  rw [h]; rfl
theorem conv_int {src d : TypeId} {k k' : IntKind} {a : Int} (h1 : P.underlying src = some (.int k)) (h2 : P.underlying d = some (.int k')) : aConv P src d (.int k a) = some (.int k' (k'.wrap a)) := by
  simp only [aConv, flatV, if_true, pureFlat, convert, pureRun_underlying h1, pureRun_underlying h2]
  simp [Conv.intToInt, Sem.pureRun_pure, pureV, flatV]

theorem some_inj_eq {α : Type} (a b : α) : (some a = some b) = (a = b) := by simp
end

/-! ### Numbers -/
theorem wrap_i64 {x : Int} (h1 : -9223372036854775808 ≤ x) (h2 : x ≤ 9223372036854775807) : IntKind.i64.wrap x = x := by
  simp only [IntKind.wrap, IntKind.bits, IntKind.signed]
  by_cases h : 0 ≤ x
  · have : x % 2 ^ 64 = x := Int.emod_eq_of_lt h (by omega)
    simp only [this]
    rw [if_neg]; simp; omega
  · have : x % 2 ^ 64 = x + 2 ^ 64 := by rw [← Int.add_emod_right]; exact Int.emod_eq_of_lt (by omega) (by omega)
    simp only [this]
    rw [if_pos]
    · omega
    · simp; omega
theorem wrap_u64 {x : Int} (h1 : 0 ≤ x) (h2 : x ≤ 18446744073709551615) : IntKind.u64.wrap x = x := by
  simp only [IntKind.wrap, IntKind.bits, IntKind.signed]
  have : x % 2 ^ 64 = x := Int.emod_eq_of_lt h1 (by omega)
  simp only [this, Bool.false_and, Bool.false_eq_true, if_false]
theorem dec_true {p : Prop} [Decidable p] (h : p) : decide p = true := decide_eq_true h
theorem dec_false {p : Prop} [Decidable p] (h : ¬ p) : decide p = false := decide_eq_false h

/-- **The rules**, but those with conditions. -/
theorem aExtract_nth (vs : Array Value) (i : Nat) : aExtract (.tuple vs) i = nth vs.toList i := by rw [aExtract_tuple, nth_eq]
theorem rules :
  (∀ {P : Program} {may : Nat → Prop} {Q : RPost} {l : RL} {g : AMem} {n : Nat}, rwp P may RCode.skip Q l g n = Q Exit.normal l g n) ∧
  (∀ {P : Program} {may : Nat → Prop} {Q : RPost} {l : RL} {g : AMem} {n : Nat} (ops : List ROp), rwp P may (RCode.region ops) Q l g n = rrun P may ops (Q Exit.normal) l g n) ∧
  (∀ {P : Program} {may : Nat → Prop} {Q : RPost} {l : RL} {g : AMem} {n : Nat} (a b : RCode), rwp P may (RCode.seq a b) Q l g n = rwp P may a (Exit.thenR (rwp P may b Q) Q) l g n) ∧
  (∀ {P : Program} {may : Nat → Prop} {Q : RPost} {l : RL} {g : AMem} {n : Nat} (c : Operand) (x y : RCode), rwp P may (RCode.cond c x y) Q l g n = rcond (aEval (regs l) c) (rwp P may x Q l g n) (rwp P may y Q l g n)) ∧
  (∀ {P : Program} {may : Nat → Prop} {Q : RPost} {l : RL} {g : AMem} {n : Nat} (id : Nat) (b : RCode), rwp P may (RCode.block id b) Q l g n = rwp P may b (Exit.inBlockR id Q) l g n) ∧
  (∀ {P : Program} {may : Nat → Prop} {Q : RPost} {l : RL} {g : AMem} {n : Nat} (id : Nat), rwp P may (RCode.exit id) Q l g n = Q (Exit.exit id) l g n) ∧
  (∀ {P : Program} {may : Nat → Prop} {Q : RPost} {l : RL} {g : AMem} {n : Nat}, rwp P may RCode.ret Q l g n = Q Exit.ret l g n) ∧
  (∀ {P : Program} {may : Nat → Prop} {Q : RPost} {l : RL} {g : AMem} {n : Nat} (rs : List Tmp) (c : RCode), rwp P may (RCode.keep rs c) Q l g n = rwp P may c Q (keepL rs l) g n) ∧
  (∀ {Q : RPost} {l : RL} {g : AMem} {n : Nat} {N : RL → AMem → Nat → Prop}, Exit.thenR N Q Exit.normal l g n = N l g n) ∧
  (∀ {Q : RPost} {N : RL → AMem → Nat → Prop}, Exit.thenR N Q Exit.normal = N) ∧
  (∀ {Q : RPost} {l : RL} {g : AMem} {n : Nat} {N : RL → AMem → Nat → Prop} (id : Nat), Exit.thenR N Q (Exit.exit id) l g n = Q (Exit.exit id) l g n) ∧
  (∀ {Q : RPost} {l : RL} {g : AMem} {n : Nat} {N : RL → AMem → Nat → Prop}, Exit.thenR N Q Exit.ret l g n = Q Exit.ret l g n) ∧
  (∀ {Q : RPost} {l : RL} {g : AMem} {n : Nat} (i : Nat), Exit.inBlockR i Q Exit.normal l g n = Q Exit.normal l g n) ∧
  (∀ {Q : RPost} (i : Nat), Exit.inBlockR i Q Exit.normal = Q Exit.normal) ∧
  (∀ {Q : RPost} {l : RL} {g : AMem} {n : Nat} (i : Nat), Exit.inBlockR i Q Exit.ret l g n = Q Exit.ret l g n) ∧
  (∀ {Q : RPost} {l : RL} {g : AMem} {n : Nat} (i j : Nat), Exit.inBlockR i Q (Exit.exit j) l g n = if j = i then Q Exit.normal l g n else Q (Exit.exit j) l g n) ∧
  (∀ {l : RL}, keepL [] l = []) ∧
  (∀ {l : RL} (r : Tmp) (rs : List Tmp), keepL (r :: rs) l = (r, look r l) :: keepL rs l) ∧
  (∀ (t k : Tmp) (v : Value) (r : RL), look t ((k, v) :: r) = if t = k then v else look t r) ∧
  (∀ {l : RL} (d : Tmp) (v : Value), push (some d) v l = (d, v) :: l) ∧
  (∀ {l : RL} (v : Value), push none v l = l) ∧
  (∀ (i : Nat), argL i [] = []) ∧
  (∀ (i : Nat) (v : Value) (vs : List Value), argL i (v :: vs) = (i, v) :: argL (i + 1) vs) ∧
  (∀ (yes no : Prop), rcond (Value.bool true) yes no = yes) ∧
  (∀ (yes no : Prop), rcond (Value.bool false) yes no = no) ∧
  (∀ (yes no : Prop), rgd (Value.bool true) true yes no = yes) ∧
  (∀ (yes no : Prop), rgd (Value.bool true) false yes no = no) ∧
  (∀ (yes no : Prop), rgd (Value.bool false) true yes no = no) ∧
  (∀ (yes no : Prop), rgd (Value.bool false) false yes no = yes) ∧
  (∀ (want : Bool) (yes no : Prop), rgd undef want yes no = no) ∧
  (∀ {P : Program} {may : Nat → Prop} {l : RL} {g : AMem} {n : Nat} {K : RL → AMem → Nat → Prop}, rrun P may [] K l g n = K l g n) ∧
  (∀ {P : Program} {may : Nat → Prop} {l : RL} {g : AMem} {n : Nat} {K : RL → AMem → Nat → Prop} (o : ROp) (rest : List ROp), rrun P may (o :: rest) K l g n = rstep P may o (rrun P may rest K) l g n) ∧
  (∀ {P : Program} {may : Nat → Prop} {l : RL} {g : AMem} {n : Nat} {K : RL → AMem → Nat → Prop} {dst : Option Tmp} {fl : Bool} {ty : TypeId} (op : Op), rstep P may { dst := dst, guard := RG.none, fl := fl, ty := ty, op := op } K l g n = rdo P may dst fl ty op K l g n) ∧
  (∀ {P : Program} {may : Nat → Prop} {l : RL} {g : AMem} {n : Nat} {K : RL → AMem → Nat → Prop} {dst : Option Tmp} {fl : Bool} {ty : TypeId} (t : Tmp) (want : Bool) (op : Op), rstep P may { dst := dst, guard := RG.some t want, fl := fl, ty := ty, op := op } K l g n = rgd (look t l) want (rdo P may dst fl ty op K l g n) (K (push dst undef l) g n)) ∧
  (∀ {l : RL} (t : Tmp), aEval (regs l) (Operand.tmp t) = look t l) ∧
  (∀ (k : IntKind) (m : Int) (T : Regs), aEval T (Operand.const (Value.int k m)) = Value.int k m) ∧
  (∀ (b : Bool) (T : Regs), aEval T (Operand.const (Value.bool b)) = Value.bool b) ∧
  (∀ (s : ByteArray) (T : Regs), aEval T (Operand.const (Value.string s)) = Value.string s) ∧
  (∀ (k : FloatKind) (m : Nat) (T : Regs), aEval T (Operand.const (Value.float k m)) = Value.float k m) ∧
  (∀ (k : FloatKind) (a b : Nat) (T : Regs), aEval T (Operand.const (Value.complex k a b)) = Value.complex k a b) ∧
  (∀ (T : Regs), aEval T (Operand.const (Value.slice none 0 0)) = Value.slice none 0 0) ∧
  (∀ (T : Regs), aEval T (Operand.const (Value.pointer none)) = Value.pointer none) ∧
  (∀ (T : Regs), aEval T (Operand.const Value.nilIface) = Value.nilIface) ∧
  (∀ (f : FuncId) (T : Regs), aEval T (Operand.func f) = Value.func (Fn.func f) #[] #[]) ∧
  (∀ {l : RL} {g : AMem} {n : Nat} {K : RL → AMem → Nat → Prop} {dst : Option Tmp} (v : Value), rval dst K l g n (some v) = K (push dst v l) g n) ∧
  (∀ {P : Program} {may : Nat → Prop} {l : RL} {g : AMem} {n : Nat} {K : RL → AMem → Nat → Prop} {dst : Option Tmp} {fl : Bool} {ty : TypeId} (x : Operand), rdo P may dst fl ty (Op.move x) K l g n = K (push dst (aEval (regs l) x) l) g n) ∧
  (∀ {P : Program} {may : Nat → Prop} {l : RL} {g : AMem} {n : Nat} {K : RL → AMem → Nat → Prop} {dst : Option Tmp} {fl : Bool} {ty : TypeId} (x : Operand), rdo P may dst fl ty (Op.assign x) K l g n = K (push dst (aEval (regs l) x) l) g n) ∧
  (∀ {P : Program} {may : Nat → Prop} {l : RL} {g : AMem} {n : Nat} {K : RL → AMem → Nat → Prop} {dst : Option Tmp} {fl : Bool} {ty : TypeId} (c a b : Operand), rdo P may dst fl ty (Op.pick c a b) K l g n = rval dst K l g n (aPick (aEval (regs l) c) (aEval (regs l) a) (aEval (regs l) b))) ∧
  (∀ (a b : Value), aPick (Value.bool true) a b = some a) ∧
  (∀ (a b : Value), aPick (Value.bool false) a b = some b) ∧
  (∀ (t x y : Bool), aPick (Value.bool t) (Value.bool x) (Value.bool y) = some (Value.bool (if t = true then x else y))) ∧
  (∀ {P : Program} {may : Nat → Prop} {l : RL} {g : AMem} {n : Nat} {K : RL → AMem → Nat → Prop} {dst : Option Tmp} {fl : Bool} {ty : TypeId} (t : TypeId) (a : Operand), rdo P may dst fl ty (Op.load t a) K l g n = rval dst K l g n (aLoad P g t (aEval (regs l) a))) ∧
  (∀ {P : Program} {may : Nat → Prop} {l : RL} {g : AMem} {n : Nat} {K : RL → AMem → Nat → Prop} {dst : Option Tmp} {fl : Bool} {ty : TypeId} (op : BinOp) (t t' : TypeId) (x y : Operand), rdo P may dst fl ty (Op.binOp op t x y t') K l g n = rval dst K l g n (aBin P op t x y (aEval (regs l) x) (aEval (regs l) y))) ∧
  (∀ {P : Program} {may : Nat → Prop} {l : RL} {g : AMem} {n : Nat} {K : RL → AMem → Nat → Prop} {dst : Option Tmp} {fl : Bool} {ty : TypeId} (op : UnOp) (t : TypeId) (x : Operand), rdo P may dst fl ty (Op.unOp op t x) K l g n = rval dst K l g n (aUn P op (aEval (regs l) x))) ∧
  (∀ {P : Program} {may : Nat → Prop} {l : RL} {g : AMem} {n : Nat} {K : RL → AMem → Nat → Prop} {dst : Option Tmp} {fl : Bool} {ty : TypeId} (src d : TypeId) (x : Operand), rdo P may dst fl ty (Op.convert src d x) K l g n = rval dst K l g n (aConv P src d (aEval (regs l) x))) ∧
  (∀ {P : Program} {may : Nat → Prop} {l : RL} {g : AMem} {n : Nat} {K : RL → AMem → Nat → Prop} {dst : Option Tmp} {fl : Bool} {ty : TypeId} (t : TypeId) (x : Operand) (i : Nat), rdo P may dst fl ty (Op.fieldAddr t x i) K l g n = rval dst K l g n (aFieldAddr P t i (aEval (regs l) x))) ∧
  (∀ {P : Program} {may : Nat → Prop} {l : RL} {g : AMem} {n : Nat} {K : RL → AMem → Nat → Prop} {dst : Option Tmp} {fl : Bool} {ty : TypeId} (t : TypeId) (x : Operand) (i : Nat), rdo P may dst fl ty (Op.field t x i) K l g n = rval dst K l g n (aField P t i (aEval (regs l) x))) ∧
  (∀ {P : Program} {may : Nat → Prop} {l : RL} {g : AMem} {n : Nat} {K : RL → AMem → Nat → Prop} {dst : Option Tmp} {fl : Bool} {ty : TypeId} (t : TypeId) (x i : Operand), rdo P may dst fl ty (Op.indexAddr t x i) K l g n = rval dst K l g n (aIndexAddr P t (aEval (regs l) x) (aEval (regs l) i))) ∧
  (∀ {P : Program} {may : Nat → Prop} {l : RL} {g : AMem} {n : Nat} {K : RL → AMem → Nat → Prop} {dst : Option Tmp} {fl : Bool} {ty : TypeId} (t : TypeId) (x i : Operand), rdo P may dst fl ty (Op.index t x i) K l g n = rval dst K l g n (aIndex P t (aEval (regs l) x) (aEval (regs l) i))) ∧
  (∀ (vs : Array Value) (i : Nat), aExtract (Value.tuple vs) i = nth vs.toList i) ∧
  (∀ {P : Program} {may : Nat → Prop} {l : RL} {g : AMem} {n : Nat} {K : RL → AMem → Nat → Prop} {dst : Option Tmp} {fl : Bool} {ty : TypeId} (x : Operand) (i : Nat), rdo P may dst fl ty (Op.extract x i) K l g n = rval dst K l g n (aExtract (aEval (regs l) x) i)) ∧
  (∀ (a : Addr), aNilCheck (Value.pointer (some a)) = some (Value.pointer (some a))) ∧
  (∀ (f : FuncId) (xs ys : Array Value), aNilCheck (Value.func (Fn.func f) xs ys) = some (Value.func (Fn.func f) xs ys)) ∧
  (∀ {P : Program} {may : Nat → Prop} {l : RL} {g : AMem} {n : Nat} {K : RL → AMem → Nat → Prop} {dst : Option Tmp} {fl : Bool} {ty : TypeId} (x : Operand), rdo P may dst fl ty (Op.nilCheck x) K l g n = rval dst K l g n (aNilCheck (aEval (regs l) x))) ∧
  (∀ {P : Program} {may : Nat → Prop} {l : RL} {g : AMem} {n : Nat} {K : RL → AMem → Nat → Prop} {dst : Option Tmp} {fl : Bool} {ty : TypeId} (t : TypeId) (x : Operand), rdo P may dst fl ty (Op.box t x) K l g n = (isJunk (aEval (regs l) x) = false ∧ fl = true ∧ K (push dst (Value.pointer (some { block := n, off := 0 })) l) (gset g n (some (AObj.row (Value.cells (aEval (regs l) x)).toList true))) (n + 1))) ∧
  (∀ {P : Program} {may : Nat → Prop} {l : RL} {g : AMem} {n : Nat} {K : RL → AMem → Nat → Prop} {dst : Option Tmp} {fl : Bool} {ty : TypeId} (t : TypeId), rdo P may dst fl ty (Op.alloc t) K l g n = reff may dst fl K l g n (Option.map (fun (z : List Value) => (Value.pointer (some { block := n, off := 0 }), Eff.new (AObj.row z true))) (zeroFlat P t))) ∧
  (∀ {may : Nat → Prop} {l : RL} {g : AMem} {n : Nat} {K : RL → AMem → Nat → Prop} {dst : Option Tmp} {fl : Bool} (v : Value), reff may dst fl K l g n (some (v, Eff.none)) = K (push dst v l) g n) ∧
  (∀ {may : Nat → Prop} {l : RL} {g : AMem} {n : Nat} {K : RL → AMem → Nat → Prop} {dst : Option Tmp} {fl : Bool} (v : Value) (o : AObj), reff may dst fl K l g n (some (v, Eff.new o)) = (fl = true ∧ K (push dst v l) (gset g n (some o)) (n + 1))) ∧
  (∀ {may : Nat → Prop} {l : RL} {g : AMem} {n : Nat} {K : RL → AMem → Nat → Prop} {dst : Option Tmp} {fl : Bool} (v : Value) (i : Nat) (o : AObj), reff may dst fl K l g n (some (v, Eff.put i o)) = (fl = true ∧ may i ∧ K (push dst v l) (gset g i (some o)) n)) ∧
  (∀ {may : Nat → Prop} {l : RL} {g : AMem} {n : Nat} {K : RL → AMem → Nat → Prop} {dst : Option Tmp} {fl : Bool} (v : Value) (i : Nat) (o : AObj), reff may dst fl K l g n (some (v, Eff.move i o)) = (fl = true ∧ may i ∧ K (push dst v l) (gset (gset g i none) n (some o)) (n + 1))) ∧
  (∀ {P : Program} {may : Nat → Prop} {l : RL} {g : AMem} {n : Nat} {K : RL → AMem → Nat → Prop} {dst : Option Tmp} {fl : Bool} {ty : TypeId} (t : TypeId) (a v : Operand), rdo P may dst fl ty (Op.store t a v) K l g n = reff may dst fl K l g n (Option.map (fun (ε : Eff) => (undef, ε)) (aStore P g t (aEval (regs l) v) (aEval (regs l) a)))) ∧
  (∀ {P : Program} {may : Nat → Prop} {l : RL} {g : AMem} {n : Nat} {K : RL → AMem → Nat → Prop} {dst : Option Tmp} {fl : Bool} {ty : TypeId} (t : TypeId) (x c : Operand), rdo P may dst fl ty (Op.makeSlice t x c) K l g n = reff may dst fl K l g n (aMake P n t (aEval (regs l) x) (aEval (regs l) c))) ∧
  (∀ {P : Program} {may : Nat → Prop} {l : RL} {g : AMem} {n : Nat} {K : RL → AMem → Nat → Prop} {dst : Option Tmp} {fl : Bool} {ty : TypeId} (fn : Fn) (xs ys : Array Operand), rdo P may dst fl ty (Op.makeFunc fn xs ys) K l g n = K (push dst (Value.func fn (Array.map (aEval (regs l)) xs) (Array.map (aEval (regs l)) ys)) l) g n) ∧
  (∀ {P : Program} {may : Nat → Prop} {l : RL} {g : AMem} {n : Nat} {K : RL → AMem → Nat → Prop} {dst : Option Tmp} {fl : Bool} {ty : TypeId} (x : Operand) (t : TypeId), rdo P may dst fl ty (Op.call { callee := Callee.builtin Builtin.len, args := #[x], argTypes := #[t] }) K l g n = rval dst K l g n (aLen P t (aEval (regs l) x))) ∧
  (∀ {P : Program} {may : Nat → Prop} {l : RL} {g : AMem} {n : Nat} {K : RL → AMem → Nat → Prop} {dst : Option Tmp} {fl : Bool} {ty : TypeId} (s x : Operand) (t : TypeId), rdo P may dst fl ty (Op.call { callee := Callee.builtin Builtin.append, args := #[s, x], argTypes := #[t, t] }) K l g n = reff may dst fl K l g n (aAppend P g n t (aEval (regs l) s) (aEval (regs l) x))) ∧
  (∀ {P : Program} {may : Nat → Prop} {l : RL} {g : AMem} {n : Nat} {K : RL → AMem → Nat → Prop} {dst : Option Tmp} {fl : Bool} {ty : TypeId} (d s : Operand) (t t' : TypeId), rdo P may dst fl ty (Op.call { callee := Callee.builtin Builtin.copy, args := #[d, s], argTypes := #[t, t'] }) K l g n = reff may dst fl K l g n (aCopy P g t (aEval (regs l) d) (aEval (regs l) s))) ∧
  (∀ {P : Program} {may : Nat → Prop} {l : RL} {g : AMem} {n : Nat} {K : RL → AMem → Nat → Prop} {dst : Option Tmp} {fl : Bool} {ty : TypeId} (f : FuncId) (args : Array Operand) (ts : Array TypeId), rdo P may dst fl ty (Op.call { callee := Callee.value (Operand.func f), args := args, argTypes := ts }) K l g n = rcall P may f (List.map (aEval (regs l)) args.toList) dst fl K l g n) ∧
  (∀ {g : AMem} (i : Nat) (o : Option AObj) (j : Nat), gset g i o j = if j = i then o else g j) ∧
  (∀ {P : Program} {g : AMem} (t : TypeId) (b o : Nat), aLoad P g t (Value.pointer (some { block := b, off := o })) = aLoadR (g b) (tagg P t) (tsize P t) o) ∧
  (∀ (cs : List Value) (rw_ : Bool) (k : Option Nat) (o : Nat), aLoadR (some (AObj.row cs rw_)) (some false) k o = nth cs o) ∧
  (∀ (cs : List Value) (rw_ : Bool) (k o : Nat), aLoadR (some (AObj.row cs rw_)) (some true) (some k) o = if o + k ≤ List.length cs then some (Value.agg (List.toArray (List.take k (List.drop o cs)))) else none) ∧
  (∀ {P : Program} {g : AMem} (t : TypeId) (v : Value) (b o : Nat), aStore P g t v (Value.pointer (some { block := b, off := o })) = aStoreR (g b) (tsize P t) v b o) ∧
  (∀ (cs : List Value) (k : Option Nat) (v : Value) (b o : Nat), aStoreR (some (AObj.row cs true)) k v b o = if k = some (Array.size (Value.cells v)) ∧ List.all (Value.cells v).toList cellOk = true ∧ o + List.length (Value.cells v).toList ≤ List.length cs then some (Eff.put b (AObj.row (splice cs o (Value.cells v).toList) true)) else none) ∧
  (∀ {P : Program} (t : TypeId) (i b o : Nat), aFieldAddr P t i (Value.pointer (some { block := b, off := o })) = aFieldAddrR (tfield P t i) b o) ∧
  (∀ (t : TypeId) (off b o : Nat), aFieldAddrR (some (t, off)) b o = some (Value.pointer (some { block := b, off := o + off }))) ∧
  (∀ {P : Program} (t : TypeId) (i : Nat) (cs : Array Value), aField P t i (Value.agg cs) = aFieldR P (tfield' P t i) cs.toList) ∧
  (∀ {P : Program} (t : TypeId) (off : Nat) (cs : List Value), aFieldR P (some (t, off)) cs = aPart P t cs off) ∧
  (∀ {P : Program} (t : TypeId) (cs : List Value) (off : Nat), aPart P t cs off = aPartR (tagg P t) (tsize P t) cs off) ∧
  (∀ (k : Option Nat) (cs : List Value) (off : Nat), aPartR (some false) k cs off = nth cs off) ∧
  (∀ (k : Nat) (cs : List Value) (off : Nat), aPartR (some true) (some k) cs off = if off + k ≤ List.length cs then some (Value.agg (List.toArray (List.take k (List.drop off cs)))) else none) ∧
  (∀ {P : Program} (t : TypeId) (x : Value) (k : IntKind) (i : Int), aIndexAddr P t x (Value.int k i) = aIndexAddrR P (Program.underlying P t) x i) ∧
  (∀ {P : Program} (el b o n e : Nat) (i : Int), aIndexAddrR P (some (TypeDesc.slice el)) (Value.slice (some { block := b, off := o }) n e) i = if tsize P el = some e ∧ 0 ≤ i ∧ i < ↑n then some (Value.pointer (some { block := b, off := o + Int.toNat i * e })) else none) ∧
  (∀ {P : Program} (t : TypeId) (x : Value), aLen P t x = aLenR (Program.underlying P t) x) ∧
  (∀ (el : Nat) (a : Option Addr) (n e : Nat), aLenR (some (TypeDesc.slice el)) (Value.slice a n e) = some (Value.int IntKind.i64 ↑n)) ∧
  (∀ (n el : Nat) (x : Value), aLenR (some (TypeDesc.array n el)) x = some (Value.int IntKind.i64 ↑n)) ∧
  (∀ (s : ByteArray), aLenR (some TypeDesc.string) (Value.string s) = some (Value.int IntKind.i64 ↑(ByteArray.size s))) ∧
  (∀ {P : Program} (b : Bool), aUn P UnOp.not (Value.bool b) = some (Value.bool !b)) ∧
  (∀ {P : Program} (k : IntKind) (a : Int), aUn P UnOp.neg (Value.int k a) = some (Value.int k (IntKind.wrap k (0 - a)))) ∧
  (∀ {P : Program} {k : IntKind} {a b : Int} {t : TypeId} {xo yo : Operand}, aBin P BinOp.add t xo yo (Value.int k a) (Value.int k b) = some (Value.int k (IntKind.wrap k (a + b)))) ∧
  (∀ {P : Program} {k : IntKind} {a b : Int} {t : TypeId} {xo yo : Operand}, aBin P BinOp.sub t xo yo (Value.int k a) (Value.int k b) = some (Value.int k (IntKind.wrap k (a - b)))) ∧
  (∀ {P : Program} {k : IntKind} {a b : Int} {t : TypeId} {xo yo : Operand}, aBin P BinOp.mul t xo yo (Value.int k a) (Value.int k b) = some (Value.int k (IntKind.wrap k (a * b)))) ∧
  (∀ {P : Program} {k : IntKind} {a b : Int} {t : TypeId} {xo yo : Operand}, aBin P BinOp.eql t xo yo (Value.int k a) (Value.int k b) = some (Value.bool (decide (a = b)))) ∧
  (∀ {P : Program} {k : IntKind} {a b : Int} {t : TypeId} {xo yo : Operand}, aBin P BinOp.neq t xo yo (Value.int k a) (Value.int k b) = some (Value.bool (decide (a ≠ b)))) ∧
  (∀ {P : Program} {k : IntKind} {a b : Int} {t : TypeId} {xo yo : Operand}, aBin P BinOp.lss t xo yo (Value.int k a) (Value.int k b) = some (Value.bool (decide (a < b)))) ∧
  (∀ {P : Program} {k : IntKind} {a b : Int} {t : TypeId} {xo yo : Operand}, aBin P BinOp.leq t xo yo (Value.int k a) (Value.int k b) = some (Value.bool (decide (a ≤ b)))) ∧
  (∀ {P : Program} {k : IntKind} {a b : Int} {t : TypeId} {xo yo : Operand}, aBin P BinOp.gtr t xo yo (Value.int k a) (Value.int k b) = some (Value.bool (decide (b < a)))) ∧
  (∀ {P : Program} {k : IntKind} {a b : Int} {t : TypeId} {xo yo : Operand}, aBin P BinOp.geq t xo yo (Value.int k a) (Value.int k b) = some (Value.bool (decide (b ≤ a)))) ∧
  (∀ {P : Program} {k : IntKind} {a b : Int} {t : TypeId} {xo yo : Operand}, aBin P BinOp.and t xo yo (Value.int k a) (Value.int k b) = some (Value.int k (bAnd k a b))) ∧
  (∀ {P : Program} {k : IntKind} {a b : Int} {t : TypeId} {xo yo : Operand}, aBin P BinOp.or t xo yo (Value.int k a) (Value.int k b) = some (Value.int k (bOr k a b))) ∧
  (∀ {P : Program} {k : IntKind} {a b : Int} {t : TypeId} {xo yo : Operand}, aBin P BinOp.xor t xo yo (Value.int k a) (Value.int k b) = some (Value.int k (bXor k a b))) ∧
  (∀ {P : Program} {k : IntKind} {a b : Int} {t : TypeId} {xo yo : Operand}, aBin P BinOp.andNot t xo yo (Value.int k a) (Value.int k b) = some (Value.int k (bAndNot k a b))) ∧
  (∀ (v : Value) (vs : List Value) (i : Nat), nth (v :: vs) i = if i = 0 then some v else nth vs (i - 1)) ∧
  (∀ (b : Bool), isJunk (Value.bool b) = false) ∧
  (∀ (k : IntKind) (a : Int), isJunk (Value.int k a) = false) ∧
  (∀ (k : FloatKind) (a : Nat), isJunk (Value.float k a) = false) ∧
  (∀ (k : FloatKind) (a b : Nat), isJunk (Value.complex k a b) = false) ∧
  (∀ (s : ByteArray), isJunk (Value.string s) = false) ∧
  (∀ (a : Option Addr), isJunk (Value.pointer a) = false) ∧
  (∀ (a : Option Addr) (b c : Nat), isJunk (Value.slice a b c) = false) ∧
  (∀ (f : Fn) (a b : Array Value), isJunk (Value.func f a b) = false) ∧
  (∀ (a : Option Nat), isJunk (Value.map a) = false) ∧
  (∀ (t : TypeId) (v : Value), isJunk (Value.iface t v) = false) ∧
  (isJunk Value.nilIface = false) ∧
  (∀ (a : Array Value), isJunk (Value.agg a) = false) ∧
  (∀ (a : Array Value), isJunk (Value.tuple a) = false) ∧
  (∀ (b : Bool), Value.cells (Value.bool b) = #[Value.bool b]) ∧
  (∀ (k : IntKind) (a : Int), Value.cells (Value.int k a) = #[Value.int k a]) ∧
  (∀ (k : FloatKind) (a : Nat), Value.cells (Value.float k a) = #[Value.float k a]) ∧
  (∀ (k : FloatKind) (a b : Nat), Value.cells (Value.complex k a b) = #[Value.complex k a b]) ∧
  (∀ (s : ByteArray), Value.cells (Value.string s) = #[Value.string s]) ∧
  (∀ (a : Option Addr), Value.cells (Value.pointer a) = #[Value.pointer a]) ∧
  (∀ (a : Option Addr) (b c : Nat), Value.cells (Value.slice a b c) = #[Value.slice a b c]) ∧
  (∀ (f : Fn) (a b : Array Value), Value.cells (Value.func f a b) = #[Value.func f a b]) ∧
  (∀ (a : Option Nat), Value.cells (Value.map a) = #[Value.map a]) ∧
  (∀ (t : TypeId) (v : Value), Value.cells (Value.iface t v) = #[Value.iface t v]) ∧
  (Value.cells Value.nilIface = #[Value.nilIface]) ∧
  (∀ (a : Array Value), Value.cells (Value.agg a) = a) ∧
  (∀ (b : Bool), cellOk (Value.bool b) = true) ∧
  (∀ (k : IntKind) (a : Int), cellOk (Value.int k a) = true) ∧
  (∀ (k : FloatKind) (a : Nat), cellOk (Value.float k a) = true) ∧
  (∀ (k : FloatKind) (a b : Nat), cellOk (Value.complex k a b) = true) ∧
  (∀ (s : ByteArray), cellOk (Value.string s) = true) ∧
  (∀ (a : Option Addr), cellOk (Value.pointer a) = true) ∧
  (∀ (a : Option Addr) (b c : Nat), cellOk (Value.slice a b c) = true) ∧
  (∀ (f : Fn) (a b : Array Value), cellOk (Value.func f a b) = true) ∧
  (∀ (a : Option Nat), cellOk (Value.map a) = true) ∧
  (∀ (t : TypeId) (v : Value), cellOk (Value.iface t v) = true) ∧
  (cellOk Value.nilIface = true) ∧
  (∀ (place : Nat → Option (Nat × Nat)) (cells : List Value), aFill place cells [] = some cells) :=
  ⟨@rwp_skip _, @rwp_region _, @rwp_seq _, @rwp_cond _, @rwp_block _, @rwp_exit _, @rwp_ret _, @rwp_keep _, @thenR_normal _, @thenR_normal' _, @thenR_exit _, @thenR_ret _, @inBlockR_normal _, @inBlockR_normal' _, @inBlockR_ret _, @inBlockR_exit _, @keepL_nil _, @keepL_cons _, @look_cons _, @push_some _, @push_none _, @argL_nil _, @argL_cons _, @rcond_true _, @rcond_false _, @rgd_tt _, @rgd_tf _, @rgd_ft _, @rgd_ff _, @rgd_undef _, @rrun_nil _, @rrun_cons _, @rstep_none _, @rstep_some _, @aEval_tmp _, @aEval_int _, @aEval_bool _, @aEval_string _, @aEval_float _, @aEval_complex _, @aEval_nilslice _, @aEval_nilptr _, @aEval_niliface _, @aEval_func _, @rval_some _, @rdo_move _, @rdo_assign _, @rdo_pick _, @aPick_true _, @aPick_false _, @aPick_bool _, @rdo_load _, @rdo_binOp _, @rdo_unOp _, @rdo_convert _, @rdo_fieldAddr _, @rdo_field _, @rdo_indexAddr _, @rdo_index _, @aExtract_nth _, @rdo_extract _, @aNilCheck_ptr _, @aNilCheck_func _, @rdo_nilCheck _, @rdo_box _, @rdo_alloc _, @reff_none _, @reff_new _, @reff_put _, @reff_move _, @rdo_store _, @rdo_makeSlice _, @rdo_makeFunc _, @rdo_len _, @rdo_append _, @rdo_copy _, @rdo_call _, @gset_if _, @aLoad_eq _, @aLoadR_one _, @aLoadR_agg _, @aStore_eq _, @aStoreR_row _, @aFieldAddr_eq _, @aFieldAddrR_some _, @aField_eq _, @aFieldR_some _, @aPart_eq _, @aPartR_one _, @aPartR_agg _, @aIndexAddr_eq _, @aIndexAddrR_slice _, @aLen_eq _, @aLenR_slice _, @aLenR_array _, @aLenR_string _, @un_not _, @un_neg _, @bin_add _, @bin_sub _, @bin_mul _, @bin_eql _, @bin_neq _, @bin_lss _, @bin_leq _, @bin_gtr _, @bin_geq _, @bin_and _, @bin_or _, @bin_xor _, @bin_andNot _, @nth_cons _, @isJunk_bool _, @isJunk_int _, @isJunk_float _, @isJunk_complex _, @isJunk_string _, @isJunk_pointer _, @isJunk_slice _, @isJunk_func _, @isJunk_map _, @isJunk_iface _, @isJunk_niliface _, @isJunk_agg _, @isJunk_tuple _, @cells_bool _, @cells_int _, @cells_float _, @cells_complex _, @cells_string _, @cells_pointer _, @cells_slice _, @cells_func _, @cells_map _, @cells_iface _, @cells_niliface _, @cells_agg _, @cellOk_bool _, @cellOk_int _, @cellOk_float _, @cellOk_complex _, @cellOk_string _, @cellOk_pointer _, @cellOk_slice _, @cellOk_func _, @cellOk_map _, @cellOk_iface _, @cellOk_niliface _, @aFill_nil _⟩
end Go.Proofs.YtkcahnefekkfaaaAbs

namespace Go.Proofs.YtkcahnefekkfaaaAbs
open Go Go.RowKit
variable [Base]

/-- A call's outcome: the value, the heap, the next number, the least number written, whether the heap is as it was. -/
structure XR where
  v : Value
  g : AMem
  n : Nat
  low : Nat
  quiet : Bool
abbrev XCall := FuncId → List Value → AMem → Nat → Option XR

/-- One operation. -/
def xop (P : Program) (call : XCall) (o : ROp) (l : RL) (g : AMem) (n low : Nat) : Option (RL × AMem × Nat × Nat) :=
  match aCall (regs l) o.op with
  | some (f, args) => match call f args g n with
    | some r => if o.fl || r.quiet then some (push o.dst r.v l, r.g, r.n, min low r.low) else none
    | none => none
  | none => match aOp P o.ty (aEval (regs l)) g n o.op with
    | some (v, .none) => some (push o.dst v l, g, n, low)
    | some (v, .new x) => if o.fl then some (push o.dst v l, gset g n (some x), n + 1, low) else none
    | some (v, .put i x) => if o.fl then some (push o.dst v l, gset g i (some x), n, min low i) else none
    | some (v, .move i x) => if o.fl then some (push o.dst v l, gset (gset g i none) n (some x), n + 1, min low i) else none
    | none => none
def xstep (P : Program) (call : XCall) (o : ROp) (l : RL) (g : AMem) (n low : Nat) : Option (RL × AMem × Nat × Nat) :=
  match o.guard with
  | .none => xop P call o l g n low
  | .never => some (push o.dst undef l, g, n, low)
  | .some t want => match look t l with
    | .bool b => if b == want then xop P call o l g n low else some (push o.dst undef l, g, n, low)
    | .tuple _ => some (push o.dst undef l, g, n, low)
    | _ => none
def xrun (P : Program) (call : XCall) : List ROp → RL → AMem → Nat → Nat → Option (RL × AMem × Nat × Nat)
  | [], l, g, n, low => some (l, g, n, low)
  | o :: rest, l, g, n, low => match xstep P call o l g n low with
    | some (l, g, n, low) => xrun P call rest l g n low
    | none => none
def sepB : Fp → Fp → Bool
  | .bs l, .bs l' => l.all fun b => !(l'.contains b)
  | .bs l, .rng lo hi => l.all fun b => decide (b < lo) || decide (hi ≤ b)
  | .rng lo hi, .bs l => l.all fun b => decide (b < lo) || decide (hi ≤ b)
  | .rng a b, .rng c d => decide (b ≤ c) || decide (d ≤ a) || decide (b ≤ a) || decide (d ≤ c)
  | _, _ => false
def dsepB (log : DLog) (F W : Fp) : List Nat → Bool
  | [] => true
  | i :: un => (match dget i log with | none => true | some e => sepB F e.W && sepB F (.rng e.lo e.hi) && sepB e.F W) && dsepB log F W un
/-- Below all that those that it is not ordered with have made. -/
def xcut (log : DLog) (n : Nat) : List Nat → Nat
  | [] => n
  | i :: un => min (match dget i log with | none => n | some e => if e.lo < e.hi then e.lo else n) (xcut log n un)
/-- A part of a heap. -/
def partG (m : Nat) (g : AMem) : AMem := fun i => if i < m then g i else none
def laidX (n : Nat) (g h' : AMem) : AMem := fun i => if i < n then g i else h' i
def xopD (P : Program) (call : XCall) (o : DOp) (log : DLog) (l : RL) (g : AMem) (n low : Nat) : Option (DLog × RL × AMem × Nat × Nat) :=
  match aCall (regs l) o.op with
  | some (f, args) => let m := xcut log n o.un
    match call f args (if m = n then g else partG m g) n with
    | some r => if decide (n ≤ r.low) && decide (m ≤ n) && dsepB log (.rng 0 m) (.bs []) o.un then
        if r.quiet then some ((o.i, ⟨.rng 0 m, .bs [], n, n⟩) :: log, push o.dst r.v l, g, n, low)
        else some ((o.i, ⟨.rng 0 m, .bs [], n, r.n⟩) :: log, push o.dst r.v l, (if m = n then r.g else laidX n g r.g), r.n, low) else none
    | none => none
  | none => match aOp P o.ty (aEval (regs l)) g n o.op with
    | some (v, .none) => if pureOp o.op then some (log, push o.dst v l, g, n, low) else if dsepB log (.bs (opFp l o.op)) (.bs []) o.un then some ((o.i, ⟨.bs (opFp l o.op), .bs [], n, n⟩) :: log, push o.dst v l, g, n, low) else none
    | some (v, .new x) => if !pureOp o.op && dsepB log (.bs (opFp l o.op)) (.bs []) o.un then some ((o.i, ⟨.bs (opFp l o.op), .bs [], n, n + 1⟩) :: log, push o.dst v l, gset g n (some x), n + 1, low) else none
    | some (v, .put i x) => if !pureOp o.op && dsepB log (.bs (opFp l o.op)) (.bs [i]) o.un then some ((o.i, ⟨.bs (opFp l o.op), .bs [i], n, n⟩) :: log, push o.dst v l, gset g i (some x), n, min low i) else none
    | some (v, .move i x) => if !pureOp o.op && dsepB log (.bs (opFp l o.op)) (.bs [i]) o.un then some ((o.i, ⟨.bs (opFp l o.op), .bs [i], n, n + 1⟩) :: log, push o.dst v l, gset (gset g i none) n (some x), n + 1, min low i) else none
    | none => none
def xstepD (P : Program) (call : XCall) (o : DOp) (log : DLog) (l : RL) (g : AMem) (n low : Nat) : Option (DLog × RL × AMem × Nat × Nat) :=
  match o.guard with
  | .none => xopD P call o log l g n low
  | .never => some (log, push o.dst undef l, g, n, low)
  | .some t want => match look t l with
    | .bool b => if b == want then xopD P call o log l g n low else some (log, push o.dst undef l, g, n, low)
    | .tuple _ => some (log, push o.dst undef l, g, n, low)
    | _ => none
def xrunD (P : Program) (call : XCall) : List DOp → DLog → RL → AMem → Nat → Nat → Option (RL × AMem × Nat × Nat)
  | [], log, l, g, n, low => some (l, g, n, low)
  | o :: rest, log, l, g, n, low => match xstepD P call o log l g n low with
    | some (log, l, g, n, low) => xrunD P call rest log l g n low
    | none => none
abbrev XS := Exit × RL × AMem × Nat × Nat
def xloop (body : RL → AMem → Nat → Nat → Option XS) (rs : List Tmp) : Nat → RL → AMem → Nat → Nat → Option XS
  | 0, _, _, _, _ => none
  | k + 1, l, g, n, low => match body (keepL rs l) g n low with
    | some (.normal, l, g, n, low) => xloop body rs k l g n low
    | r => r
def xcode (P : Program) (call : XCall) (k : Nat) : RCode → RL → AMem → Nat → Nat → Option XS
  | .skip, l, g, n, low => some (.normal, l, g, n, low)
  | .region ops, l, g, n, low => match xrun P call ops l g n low with
    | some (l, g, n, low) => some (.normal, l, g, n, low)
    | none => none
  | .regionD ops, l, g, n, low => match xrunD P call ops [] l g n low with
    | some (l, g, n, low) => some (.normal, l, g, n, low)
    | none => none
  | .seq a b, l, g, n, low => match xcode P call k a l g n low with
    | some (.normal, l, g, n, low) => xcode P call k b l g n low
    | r => r
  | .cond c a b, l, g, n, low => match aEval (regs l) c with
    | .bool true => xcode P call k a l g n low
    | .bool false => xcode P call k b l g n low
    | _ => none
  | .block id b, l, g, n, low => match xcode P call k b l g n low with
    | some (.exit id', l, g, n, low) => if id' = id then some (.normal, l, g, n, low) else some (.exit id', l, g, n, low)
    | r => r
  | .loop rs b, l, g, n, low => xloop (xcode P call k b) rs k l g n low
  | .exit id, l, g, n, low => some (.exit id, l, g, n, low)
  | .ret, l, g, n, low => some (.ret, l, g, n, low)
  | .keep rs c, l, g, n, low => xcode P call k c (keepL rs l) g n low

abbrev XTab := List (FuncId × RCode × List ResultVar × Nat)
def XTab.find (t : XTab) (f : FuncId) : Option (RCode × List ResultVar × Nat) := match t with
  | [] => none
  | (k, x) :: r => if f = k then some x else XTab.find r f
/-- A result that holds no address. -/
def flatR : Value → Bool
  | .agg xs => xs.toList.all flatV
  | .tuple xs => xs.toList.all fun x => match x with
    | .agg ys => ys.toList.all flatV
    | x => flatV x
  | v => flatV v
def Exit.fine : Exit → Bool
  | .normal => true
  | .ret => true
  | _ => false
/-- A call. 'k' bounds the rounds, the first number the depth. -/
def xfn (P : Program) (tab : XTab) (k : Nat) : Nat → XCall
  | 0, _, _, _, _ => none
  | d + 1, f, args, g, n => match tab.find f with
    | none => none
    | some (rc, rs, na) => if args.length = na then match xcode P (xfn P tab k d) k rc (argL 0 args) g n n with
      | some (e, l, g1, n1, low) => if Exit.fine e then match aResults P g1 (regs l) rs with
        | some v => if flatR v && decide (n ≤ low) then some ⟨v, g, n, n, true⟩ else some ⟨v, g1, n1, low, false⟩
        | none => none
        else none
      | none => none
      else none

section
variable {P : Program}
theorem flatR_ren {m : Nat} {v : Value} (h : flatR v = true) : VRen m id v v := by
  unfold flatR at h
  split at h
  · rw [List.all_eq_true] at h
    exact .agg _ _ rfl fun i h1 h2 => .flat _ (h _ (by simp))
  · rw [List.all_eq_true] at h
    refine .tuple _ _ rfl fun i h1 h2 => ?_
    rename_i xs
    have := h xs[i] (by simp)
    split at this
    · rename_i ys e
      rw [e]
      rw [List.all_eq_true] at this
      exact .agg _ _ rfl fun i h1 h2 => .flat _ (this _ (by simp))
    · exact .flat _ this
  · exact .flat _ h

/-- What a run did to the heap. -/
structure XOk (g : AMem) (n low : Nat) (g' : AMem) (n' low' : Nat) : Prop where
  le : n ≤ n'
  low : low' ≤ low
  same : ∀ i, i < low' → i < n → g' i = g i
  dom : ∀ i, g' i ≠ none → i < n'
theorem XOk.refl {g : AMem} {n low : Nat} (hd : ∀ i, g i ≠ none → i < n) : XOk g n low g n low := ⟨Nat.le_refl _, Nat.le_refl _, fun _ _ _ => rfl, hd⟩
theorem XOk.trans {g g' g'' : AMem} {n n' n'' low low' low'' : Nat} (h : XOk g n low g' n' low') (h' : XOk g' n' low' g'' n'' low'') : XOk g n low g'' n'' low'' :=
  ⟨Nat.le_trans h.le h'.le, Nat.le_trans h'.low h.low, fun i hi hn => (h'.same i hi (Nat.lt_of_lt_of_le hn h.le)).trans (h.same i (Nat.lt_of_lt_of_le hi h'.low) hn), h'.dom⟩
/-- What a call's outcome says. -/
def CallOk (P : Program) (call : XCall) : Prop := ∀ f args g n r, (∀ i, g i ≠ none → i < n) → call f args g n = some r →
  goFn P f = true ∧ FnC P f args g n (fun i => r.low ≤ i) r.v r.g r.n ∧ (r.quiet = true → r.g = g ∧ r.n = n) ∧ n ≤ r.n ∧ (∀ i, i < r.low → i < n → r.g i = g i) ∧ (∀ i, r.g i ≠ none → i < r.n)
theorem FnC.touches {f : FuncId} {args : List Value} {g : AMem} {n : Nat} {t t' : Nat → Prop} {v : Value} {g' : AMem} {n' : Nat} (h : FnC P f args g n t v g' n') (ht : ∀ i, i < n → t i → t' i) : FnC P f args g n t' v g' n' := by
  intro ρ w cargs hbase hrep hargs
  refine (h ρ w cargs (hbase.mono ht) hrep hargs).mono fun e w' he => ?_
  obtain ⟨cv, ρ', rfl, hT⟩ := he
  exact ⟨cv, ρ', rfl, hT.val, hT.rep, hT.le, hT.ext, hT.frame.mono fun b _ ⟨i, h1, h2, h3⟩ => ⟨i, h1, ht i h1 h2, h3⟩, fun j b h1 h2 => (hT.fresh j b h1 h2).imp id fun ⟨i, h3, h4, h5⟩ => ⟨i, h3, ht i h3 h4, h5⟩, hT.keep⟩
theorem sepB_sound : ∀ {A B : Fp}, sepB A B = true → A.sep B
  | .bs l, .bs l', h => fun x hx hy => by
    simp only [sepB, List.all_eq_true, Bool.not_eq_true'] at h
    have := h x hx
    simp only [Fp.mem] at hy
    rw [List.contains_eq_mem, decide_eq_false_iff_not] at this
    exact this hy
  | .bs l, .rng lo hi, h => fun x hx hy => by
    simp only [sepB, List.all_eq_true, Bool.or_eq_true, decide_eq_true_eq] at h
    have := h x hx
    have hy : lo ≤ x ∧ x < hi := hy
    omega
  | .rng lo hi, .bs l, h => fun x hy hx => by
    simp only [sepB, List.all_eq_true, Bool.or_eq_true, decide_eq_true_eq] at h
    have := h x hx
    have hy : lo ≤ x ∧ x < hi := hy
    omega
  | .rng a b, .rng c d, h => fun x hx hy => by
    simp only [sepB, Bool.or_eq_true, decide_eq_true_eq] at h
    have hy : c ≤ x ∧ x < d := hy
    have hx : a ≤ x ∧ x < b := hx
    omega
  | .pr _, _, h => by cases h
  | .bs _, .pr _, h => by cases h
  | .rng _ _, .pr _, h => by cases h
theorem dsepB_sound {log : DLog} {F W : Fp} : ∀ {un : List Nat}, dsepB log F W un = true → dsep log F W un
  | [], _ => trivial
  | i :: un, h => by
    simp only [dsepB, Bool.and_eq_true] at h
    refine ⟨?_, dsepB_sound h.2⟩
    cases hd : dget i log with
    | none => trivial
    | some e =>
      have h1 := h.1
      rw [hd] at h1
      simp only [Bool.and_eq_true] at h1
      exact ⟨sepB_sound h1.1.1, sepB_sound h1.1.2, sepB_sound h1.2⟩

section
variable {call : XCall} (hc : CallOk P call)
include hc
theorem xop_sound {o : ROp} {l l' : RL} {g g' : AMem} {n n' low low' : Nat} (hd : ∀ i, g i ≠ none → i < n) (h : xop P call o l g n low = some (l', g', n', low')) :
    XOk g n low g' n' low' ∧ ∀ (low0 : Nat) (K : RL → AMem → Nat → Prop), low0 ≤ low' → K l' g' n' → rdo P (fun i => low0 ≤ i) o.dst o.fl o.ty o.op K l g n := by
  unfold xop at h
  unfold rdo
  split at h
  · rename_i f args hcall
    simp only [hcall]
    split at h
    · rename_i r hr
      obtain ⟨h1, h2, h3, h4, h5, h6⟩ := hc f args g n r hd hr
      split at h
      · rename_i hfl
        simp only [Option.some.injEq, Prod.mk.injEq] at h
        obtain ⟨rfl, rfl, rfl, rfl⟩ := h
        refine ⟨⟨h4, Nat.min_le_left _ _, fun i hi hn => h5 i (Nat.lt_of_lt_of_le hi (Nat.min_le_right _ _)) hn, h6⟩, fun low0 K hl hK => ⟨h1, _, r.v, r.g, r.n, h2, fun i hi => Nat.le_trans hl (Nat.le_trans (Nat.min_le_right _ _) hi), ?_, hK⟩⟩
        simp only [Bool.or_eq_true] at hfl
        exact hfl.imp id h3
      · cases h
    · cases h
  · rename_i hcall
    simp only [hcall]
    split at h
    · rename_i v ha
      simp only [Option.some.injEq, Prod.mk.injEq] at h
      obtain ⟨rfl, rfl, rfl, rfl⟩ := h
      rw [ha]; exact ⟨XOk.refl hd, fun _ _ _ hK => hK⟩
    · rename_i v x ha
      split at h
      · rename_i hfl
        simp only [Option.some.injEq, Prod.mk.injEq] at h
        obtain ⟨rfl, rfl, rfl, rfl⟩ := h
        rw [ha]
        refine ⟨⟨Nat.le_succ _, Nat.le_refl _, fun i _ hn => gset_ne _ _ (by omega), fun i hi => ?_⟩, fun _ _ _ hK => ⟨hfl, hK⟩⟩
        unfold gset at hi; split at hi
        · omega
        · exact Nat.lt_succ_of_lt (hd i hi)
      · cases h
    · rename_i v i x ha
      have hi0 := hd i (aOp_touch _ ha (x := i) rfl).2
      split at h
      · rename_i hfl
        simp only [Option.some.injEq, Prod.mk.injEq] at h
        obtain ⟨rfl, rfl, rfl, rfl⟩ := h
        rw [ha]
        refine ⟨⟨Nat.le_refl _, Nat.min_le_left _ _, fun j hj hn => gset_ne _ _ (by have := Nat.min_le_right low i; omega), fun j hj => ?_⟩, fun low0 _ hl hK => ⟨hfl, Nat.le_trans hl (Nat.min_le_right _ _), hK⟩⟩
        unfold gset at hj; split at hj
        · omega
        · exact hd j hj
      · cases h
    · rename_i v i x ha
      have hi0 := hd i (aOp_touch _ ha (x := i) rfl).2
      split at h
      · rename_i hfl
        simp only [Option.some.injEq, Prod.mk.injEq] at h
        obtain ⟨rfl, rfl, rfl, rfl⟩ := h
        rw [ha]
        refine ⟨⟨Nat.le_succ _, Nat.min_le_left _ _, fun j hj hn => by rw [gset_ne _ _ (by omega), gset_ne _ _ (by have := Nat.min_le_right low i; omega)], fun j hj => ?_⟩, fun low0 _ hl hK => ⟨hfl, Nat.le_trans hl (Nat.min_le_right _ _), hK⟩⟩
        unfold gset at hj; split at hj
        · omega
        · split at hj
          · exact absurd rfl hj
          · exact Nat.lt_succ_of_lt (hd j hj)
      · cases h
    · cases h
theorem xrun_sound : ∀ (ops : List ROp) (l l' : RL) (g g' : AMem) (n n' low low' : Nat), (∀ i, g i ≠ none → i < n) → xrun P call ops l g n low = some (l', g', n', low') →
    XOk g n low g' n' low' ∧ ∀ (low0 : Nat) (K : RL → AMem → Nat → Prop), low0 ≤ low' → K l' g' n' → rrun P (fun i => low0 ≤ i) ops K l g n
  | [], l, l', g, g', n, n', low, low', hd, h => by
    simp only [xrun, Option.some.injEq, Prod.mk.injEq] at h
    obtain ⟨rfl, rfl, rfl, rfl⟩ := h
    exact ⟨XOk.refl hd, fun _ _ _ hK => hK⟩
  | o :: rest, l, l', g, g', n, n', low, low', hd, h => by
    simp only [xrun] at h
    split at h
    · rename_i l1 g1 n1 low1 hs
      have one : XOk g n low g1 n1 low1 ∧ ∀ (low0 : Nat) (K : RL → AMem → Nat → Prop), low0 ≤ low1 → K l1 g1 n1 → rstep P (fun i => low0 ≤ i) o K l g n := by
        simp only [rstep]
        unfold xstep at hs
        split at hs
        · rename_i hg
          simp only [hg]
          exact xop_sound hc hd hs
        · rename_i hg
          simp only [hg]
          simp only [Option.some.injEq, Prod.mk.injEq] at hs
          obtain ⟨rfl, rfl, rfl, rfl⟩ := hs
          exact ⟨XOk.refl hd, fun _ _ _ hK => hK⟩
        · rename_i t want hg
          simp only [hg]
          split at hs
          · rename_i b hb
            simp only [hb, rgd]
            split at hs
            · rename_i hbw
              have hbw : b = want := by simpa using hbw
              obtain ⟨e1, e2⟩ := xop_sound hc hd hs
              exact ⟨e1, fun low0 K hl hK => ⟨fun _ => e2 low0 K hl hK, fun e => by rw [hbw] at e; cases want <;> cases e⟩⟩
            · rename_i hbw
              have hbw : ¬ b = want := by simpa using hbw
              simp only [Option.some.injEq, Prod.mk.injEq] at hs
              obtain ⟨rfl, rfl, rfl, rfl⟩ := hs
              exact ⟨XOk.refl hd, fun _ _ _ hK => ⟨fun e => absurd e hbw, fun _ => hK⟩⟩
          · rename_i vs hb
            simp only [hb, rgd]
            simp only [Option.some.injEq, Prod.mk.injEq] at hs
            obtain ⟨rfl, rfl, rfl, rfl⟩ := hs
            exact ⟨XOk.refl hd, fun _ _ _ hK => hK⟩
          · cases hs
      obtain ⟨i1, i2⟩ := xrun_sound rest l1 l' g1 g' n1 n' low1 low' one.1.dom h
      exact ⟨one.1.trans i1, fun low0 K hl hK => one.2 low0 _ (Nat.le_trans hl i1.low) (i2 low0 K hl hK)⟩
    · cases h
theorem xopD_sound {o : DOp} {log log' : DLog} {l l' : RL} {g g' : AMem} {n n' low low' : Nat} (hd : ∀ i, g i ≠ none → i < n) (h : xopD P call o log l g n low = some (log', l', g', n', low')) :
    XOk g n low g' n' low' ∧ ∀ (low0 : Nat) (K : DLog → RL → AMem → Nat → Prop), low0 ≤ low' → K log' l' g' n' → ddo P (fun i => low0 ≤ i) o.dst o.i o.un o.ty o.op K log l g n := by
  unfold xopD at h
  unfold ddo
  split at h
  · rename_i f args hcall
    simp only [hcall]
    generalize hm : xcut log n o.un = m at h
    simp only at h
    split at h
    · rename_i r hr
      split at h
      · rename_i hcond
        simp only [Bool.and_eq_true, decide_eq_true_eq] at hcond
        obtain ⟨⟨c1, c2⟩, c3⟩ := hcond
        have hpart : (if m = n then g else partG m g) = res (Fp.rng 0 m).mem g := by
          split
          · rename_i e; subst e
            funext x
            by_cases h : x < m
            · exact (res_in ⟨Nat.zero_le _, h⟩).symm
            · rw [res_out (fun hm => h hm.2)]
              cases hg : g x with
              | none => rfl
              | some o => exact absurd (hd x (by rw [hg]; simp)) h
          · funext x
            by_cases h : x < m
            · rw [res_in ⟨Nat.zero_le _, h⟩]; exact if_pos h
            · rw [res_out (fun hm => h hm.2)]; exact if_neg h
        have hdr : ∀ i, res (Fp.rng 0 m).mem g i ≠ none → i < n := fun i hi => by
          apply Classical.byContradiction; intro hn
          exact hi (res_out fun hm => by have := hm.2; omega)
        rw [hpart] at hr
        obtain ⟨h1, h2, h3, h4, h5, h6⟩ := hc f args _ n r hdr hr
        have hnone : ∀ x, r.n ≤ x → r.g x = none := fun x hx => by
          cases hg : r.g x with
          | none => rfl
          | some o => have := h6 x (by rw [hg]; simp); omega
        have hbs : (Fp.bs []).mem = fun _ => False := by funext x; simp [Fp.mem]
        have h2' : FnC P f args (res (Fp.rng 0 m).mem g) n (Fp.bs []).mem r.v r.g r.n := h2.touches fun i hi hx => by omega
        have hlaid : laid g r.g (Fp.bs []).mem n = if m = n then r.g else laidX n g r.g := by
          funext x
          by_cases hx : n ≤ x
          · rw [laid_in (.inr hx)]
            split
            · rfl
            · exact (if_neg (by omega)).symm
          · rw [laid_out (by rw [hbs]; simp; omega)]
            split
            · rename_i e
              rw [h5 x (by omega) (by omega), res_in ⟨Nat.zero_le _, by omega⟩]
            · exact (if_pos (by omega)).symm
        split at h
        · rename_i hq
          simp only [Option.some.injEq, Prod.mk.injEq] at h
          obtain ⟨rfl, rfl, rfl, rfl, rfl⟩ := h
          obtain ⟨q1, q2⟩ := h3 hq
          refine ⟨XOk.refl hd, fun low0 K hl hK => ⟨h1, .rng 0 m, .bs [], r.v, r.g, r.n, h2', fun x hx => by simp [Fp.mem] at hx, fun x hx => by have := hx.2; omega, h4, hnone, dsepB_sound c3, ?_⟩⟩
          have : laid g r.g (Fp.bs []).mem n = g := by
            funext x
            by_cases hx : n ≤ x
            · rw [laid_in (.inr hx), hnone x (by omega)]
              cases hg : g x with
              | none => rfl
              | some o => have := hd x (by rw [hg]; simp); omega
            · exact laid_out (by rw [hbs]; simp; omega)
          rw [this, q2]; exact hK
        · simp only [Option.some.injEq, Prod.mk.injEq] at h
          obtain ⟨rfl, rfl, rfl, rfl, rfl⟩ := h
          refine ⟨⟨h4, Nat.le_refl _, fun i _ hn => ?_, fun i hi => ?_⟩, fun low0 K hl hK => ⟨h1, .rng 0 m, .bs [], r.v, r.g, r.n, h2', fun x hx => by simp [Fp.mem] at hx, fun x hx => by have := hx.2; omega, h4, hnone, dsepB_sound c3, by rw [hlaid]; exact hK⟩⟩
          · rw [← hlaid]; exact laid_out (by rw [hbs]; simp; omega)
          · rw [← hlaid] at hi
            by_cases hx : n ≤ i
            · rw [laid_in (.inr hx)] at hi; exact h6 i hi
            · omega
      · cases h
    · cases h
  · rename_i hcall
    simp only [hcall]
    split at h
    · rename_i v ha
      split at h
      · rename_i hp
        simp only [Option.some.injEq, Prod.mk.injEq] at h
        obtain ⟨rfl, rfl, rfl, rfl, rfl⟩ := h
        simp only [if_pos hp, ha]; exact ⟨XOk.refl hd, fun _ _ _ hK => hK⟩
      · rename_i hp
        split at h
        · rename_i hs
          simp only [Option.some.injEq, Prod.mk.injEq] at h
          obtain ⟨rfl, rfl, rfl, rfl, rfl⟩ := h
          simp only [if_neg hp, ha]; exact ⟨XOk.refl hd, fun _ _ _ hK => ⟨dsepB_sound hs, hK⟩⟩
        · cases h
    · rename_i v x ha
      split at h
      · rename_i hcond
        simp only [Bool.and_eq_true, Bool.not_eq_true'] at hcond
        simp only [Option.some.injEq, Prod.mk.injEq] at h
        obtain ⟨rfl, rfl, rfl, rfl, rfl⟩ := h
        have hnp : ¬ pureOp o.op = true := by rw [hcond.1]; simp
        simp only [if_neg hnp, ha]
        refine ⟨⟨Nat.le_succ _, Nat.le_refl _, fun i _ hn => gset_ne _ _ (by omega), fun i hi => ?_⟩, fun _ _ _ hK => ⟨dsepB_sound hcond.2, hK⟩⟩
        unfold gset at hi; split at hi
        · omega
        · exact Nat.lt_succ_of_lt (hd i hi)
      · cases h
    · rename_i v i x ha
      have hi0 := hd i (aOp_touch _ ha (x := i) rfl).2
      split at h
      · rename_i hcond
        simp only [Bool.and_eq_true, Bool.not_eq_true'] at hcond
        simp only [Option.some.injEq, Prod.mk.injEq] at h
        obtain ⟨rfl, rfl, rfl, rfl, rfl⟩ := h
        have hnp : ¬ pureOp o.op = true := by rw [hcond.1]; simp
        simp only [if_neg hnp, ha]
        refine ⟨⟨Nat.le_refl _, Nat.min_le_left _ _, fun j hj hn => gset_ne _ _ (by have := Nat.min_le_right low i; omega), fun j hj => ?_⟩, fun low0 _ hl hK => ⟨Nat.le_trans hl (Nat.min_le_right _ _), dsepB_sound hcond.2, hK⟩⟩
        unfold gset at hj; split at hj
        · omega
        · exact hd j hj
      · cases h
    · rename_i v i x ha
      have hi0 := hd i (aOp_touch _ ha (x := i) rfl).2
      split at h
      · rename_i hcond
        simp only [Bool.and_eq_true, Bool.not_eq_true'] at hcond
        simp only [Option.some.injEq, Prod.mk.injEq] at h
        obtain ⟨rfl, rfl, rfl, rfl, rfl⟩ := h
        have hnp : ¬ pureOp o.op = true := by rw [hcond.1]; simp
        simp only [if_neg hnp, ha]
        refine ⟨⟨Nat.le_succ _, Nat.min_le_left _ _, fun j hj hn => by rw [gset_ne _ _ (by omega), gset_ne _ _ (by have := Nat.min_le_right low i; omega)], fun j hj => ?_⟩, fun low0 _ hl hK => ⟨Nat.le_trans hl (Nat.min_le_right _ _), dsepB_sound hcond.2, hK⟩⟩
        unfold gset at hj; split at hj
        · omega
        · split at hj
          · exact absurd rfl hj
          · exact Nat.lt_succ_of_lt (hd j hj)
      · cases h
    · cases h
theorem xrunD_sound : ∀ (ops : List DOp) (log : DLog) (l l' : RL) (g g' : AMem) (n n' low low' : Nat), (∀ i, g i ≠ none → i < n) → xrunD P call ops log l g n low = some (l', g', n', low') →
    XOk g n low g' n' low' ∧ ∀ (low0 : Nat) (K : RL → AMem → Nat → Prop), low0 ≤ low' → K l' g' n' → drun P (fun i => low0 ≤ i) ops K log l g n
  | [], log, l, l', g, g', n, n', low, low', hd, h => by
    simp only [xrunD, Option.some.injEq, Prod.mk.injEq] at h
    obtain ⟨rfl, rfl, rfl, rfl⟩ := h
    exact ⟨XOk.refl hd, fun _ _ _ hK => hK⟩
  | o :: rest, log, l, l', g, g', n, n', low, low', hd, h => by
    simp only [xrunD] at h
    split at h
    · rename_i log1 l1 g1 n1 low1 hs
      have one : XOk g n low g1 n1 low1 ∧ ∀ (low0 : Nat) (K : DLog → RL → AMem → Nat → Prop), low0 ≤ low1 → K log1 l1 g1 n1 → dstep P (fun i => low0 ≤ i) o K log l g n := by
        simp only [dstep]
        unfold xstepD at hs
        split at hs
        · rename_i hg
          simp only [hg]
          exact xopD_sound hc hd hs
        · rename_i hg
          simp only [hg]
          simp only [Option.some.injEq, Prod.mk.injEq] at hs
          obtain ⟨rfl, rfl, rfl, rfl, rfl⟩ := hs
          exact ⟨XOk.refl hd, fun _ _ _ hK => hK⟩
        · rename_i t want hg
          simp only [hg]
          split at hs
          · rename_i b hb
            simp only [hb, rgd]
            split at hs
            · rename_i hbw
              have hbw : b = want := by simpa using hbw
              obtain ⟨e1, e2⟩ := xopD_sound hc hd hs
              exact ⟨e1, fun low0 K hl hK => ⟨fun _ => e2 low0 K hl hK, fun e => by rw [hbw] at e; cases want <;> cases e⟩⟩
            · rename_i hbw
              have hbw : ¬ b = want := by simpa using hbw
              simp only [Option.some.injEq, Prod.mk.injEq] at hs
              obtain ⟨rfl, rfl, rfl, rfl, rfl⟩ := hs
              exact ⟨XOk.refl hd, fun _ _ _ hK => ⟨fun e => absurd e hbw, fun _ => hK⟩⟩
          · rename_i vs hb
            simp only [hb, rgd]
            simp only [Option.some.injEq, Prod.mk.injEq] at hs
            obtain ⟨rfl, rfl, rfl, rfl, rfl⟩ := hs
            exact ⟨XOk.refl hd, fun _ _ _ hK => hK⟩
          · cases hs
      obtain ⟨i1, i2⟩ := xrunD_sound rest log1 l1 l' g1 g' n1 n' low1 low' one.1.dom h
      exact ⟨one.1.trans i1, fun low0 K hl hK => one.2 low0 _ (Nat.le_trans hl i1.low) (i2 low0 K hl hK)⟩
    · cases h

theorem xcode_sound (k : Nat) : ∀ (rc : RCode) (l l' : RL) (g g' : AMem) (n n' low low' : Nat) (e : Exit), (∀ i, g i ≠ none → i < n) → xcode P call k rc l g n low = some (e, l', g', n', low') →
    XOk g n low g' n' low' ∧ ∀ (low0 : Nat) (Q : RPost), low0 ≤ low' → Q e l' g' n' → rwp P (fun i => low0 ≤ i) rc Q l g n := by
  intro rc
  induction rc with
  | skip | exit | ret =>
    intro l l' g g' n n' low low' e hd h
    simp only [xcode, Option.some.injEq, Prod.mk.injEq] at h
    obtain ⟨rfl, rfl, rfl, rfl, rfl⟩ := h
    exact ⟨XOk.refl hd, fun _ _ _ hQ => hQ⟩
  | keep rs c ih =>
    intro l l' g g' n n' low low' e hd h
    exact ih _ l' g g' n n' low low' e hd h
  | region ops =>
    intro l l' g g' n n' low low' e hd h
    simp only [xcode] at h
    split at h
    · rename_i l1 g1 n1 low1 hr
      simp only [Option.some.injEq, Prod.mk.injEq] at h
      obtain ⟨rfl, rfl, rfl, rfl, rfl⟩ := h
      obtain ⟨a, b⟩ := xrun_sound hc ops l _ g _ n _ low _ hd hr
      exact ⟨a, fun low0 Q hl hQ => b low0 _ hl hQ⟩
    · cases h
  | regionD ops =>
    intro l l' g g' n n' low low' e hd h
    simp only [xcode] at h
    split at h
    · rename_i l1 g1 n1 low1 hr
      simp only [Option.some.injEq, Prod.mk.injEq] at h
      obtain ⟨rfl, rfl, rfl, rfl, rfl⟩ := h
      obtain ⟨a, b⟩ := xrunD_sound hc ops [] l _ g _ n _ low _ hd hr
      exact ⟨a, fun low0 Q hl hQ => b low0 _ hl hQ⟩
    · cases h
  | seq a b iha ihb =>
    intro l l' g g' n n' low low' e hd h
    simp only [xcode] at h
    split at h
    · rename_i l1 g1 n1 low1 hr
      obtain ⟨j1, j2⟩ := iha l l1 g g1 n n1 low low1 .normal hd hr
      obtain ⟨i1, i2⟩ := ihb l1 l' g1 g' n1 n' low1 low' e j1.dom h
      exact ⟨j1.trans i1, fun low0 Q hl hQ => j2 low0 _ (Nat.le_trans hl i1.low) (i2 low0 Q hl hQ)⟩
    · rename_i hne
      obtain ⟨j1, j2⟩ := iha l l' g g' n n' low low' e hd h
      refine ⟨j1, fun low0 Q hl hQ => j2 low0 _ hl ?_⟩
      cases e with
      | normal => exact absurd h (hne _ _ _ _)
      | _ => exact hQ
  | cond c a b iha ihb =>
    intro l l' g g' n n' low low' e hd h
    simp only [xcode] at h
    split at h
    · rename_i hb
      obtain ⟨j1, j2⟩ := iha l l' g g' n n' low low' e hd h
      exact ⟨j1, fun low0 Q hl hQ => by simp only [rwp, hb, rcond_true]; exact j2 low0 Q hl hQ⟩
    · rename_i hb
      obtain ⟨j1, j2⟩ := ihb l l' g g' n n' low low' e hd h
      exact ⟨j1, fun low0 Q hl hQ => by simp only [rwp, hb, rcond_false]; exact j2 low0 Q hl hQ⟩
    · cases h
  | block id b ih =>
    intro l l' g g' n n' low low' e hd h
    simp only [xcode] at h
    split at h
    · rename_i id' l1 g1 n1 low1 hr
      split at h
      · rename_i hid
        simp only [Option.some.injEq, Prod.mk.injEq] at h
        obtain ⟨rfl, rfl, rfl, rfl, rfl⟩ := h
        obtain ⟨j1, j2⟩ := ih l _ g _ n _ low _ _ hd hr
        exact ⟨j1, fun low0 Q hl hQ => j2 low0 (Exit.inBlockR id Q) hl (by simp only [Exit.inBlockR, hid, if_true]; exact hQ)⟩
      · rename_i hid
        simp only [Option.some.injEq, Prod.mk.injEq] at h
        obtain ⟨rfl, rfl, rfl, rfl, rfl⟩ := h
        obtain ⟨j1, j2⟩ := ih l _ g _ n _ low _ _ hd hr
        exact ⟨j1, fun low0 Q hl hQ => j2 low0 (Exit.inBlockR id Q) hl (by simp only [Exit.inBlockR, hid, if_false]; exact hQ)⟩
    · rename_i hne
      obtain ⟨j1, j2⟩ := ih l l' g g' n n' low low' e hd h
      refine ⟨j1, fun low0 Q hl hQ => j2 low0 (Exit.inBlockR id Q) hl ?_⟩
      cases e with
      | exit id' => exact absurd h (hne _ _ _ _ _)
      | _ => exact hQ
  | loop rs b ih =>
    intro l l' g g' n n' low low' e hd h
    simp only [xcode] at h
    have key : ∀ (m : Nat) (l : RL) (g : AMem) (n low : Nat), (∀ i, g i ≠ none → i < n) → xloop (xcode P call k b) rs m l g n low = some (e, l', g', n', low') →
        XOk g n low g' n' low' ∧ ∀ (low0 : Nat) (Q : RPost), low0 ≤ low' → Q e l' g' n' → rrounds rs (rwp P (fun i => low0 ≤ i) b) Q m l g n := by
      intro m
      induction m with
      | zero => intro l g n low hd h; simp [xloop] at h
      | succ m ihm =>
        intro l g n low hd h
        simp only [xloop] at h
        split at h
        · rename_i l1 g1 n1 low1 hr
          obtain ⟨j1, j2⟩ := ih (keepL rs l) l1 g g1 n n1 low low1 .normal hd hr
          obtain ⟨i1, i2⟩ := ihm l1 g1 n1 low1 j1.dom h
          exact ⟨j1.trans i1, fun low0 Q hl hQ => j2 low0 (Exit.thenR (rrounds rs (rwp P (fun i => low0 ≤ i) b) Q m) Q) (Nat.le_trans hl i1.low) (i2 low0 Q hl hQ)⟩
        · rename_i hne
          obtain ⟨j1, j2⟩ := ih (keepL rs l) l' g g' n n' low low' e hd h
          refine ⟨j1, fun low0 Q hl hQ => j2 low0 (Exit.thenR (rrounds rs (rwp P (fun i => low0 ≤ i) b) Q m) Q) hl ?_⟩
          cases e with
          | normal => exact absurd h (hne _ _ _ _)
          | _ => exact hQ
    obtain ⟨h1, h2⟩ := key k l g n low hd h
    exact ⟨h1, fun low0 Q hl hQ => ⟨k, h2 low0 Q hl hQ⟩⟩
end

/-- The table's functions are what the program has. -/
def TabOk (P : Program) (tab : XTab) : Prop := ∀ f rc rs na, tab.find f = some (rc, rs, na) → FnT P f rc rs na
theorem TabOk.nil : TabOk P [] := fun f rc rs na h => by simp [XTab.find] at h
theorem TabOk.cons {f : FuncId} {rc : RCode} {rs : List ResultVar} {na : Nat} {t : XTab} (h : FnT P f rc rs na) (ht : TabOk P t) : TabOk P ((f, rc, rs, na) :: t) := fun f' rc' rs' na' h' => by
  simp only [XTab.find] at h'
  split at h'
  · rename_i e; subst e; cases h'; exact h
  · exact ht f' rc' rs' na' h'

theorem xfn_ok (hm : P.follows .mixedOrders = true) {tab : XTab} (ht : TabOk P tab) (k : Nat) : ∀ d, CallOk P (xfn P tab k d)
  | 0 => fun f args g n r hd h => by simp [xfn] at h
  | d + 1 => fun f args g n r hd h => by
    simp only [xfn] at h
    split at h
    · cases h
    · rename_i rc rs na hf
      have hfn := ht f rc rs na hf
      split at h
      · rename_i hna
        split at h
        · rename_i e l g1 n1 low hx
          obtain ⟨hs1, hs2⟩ := xcode_sound (xfn_ok hm ht k d) k rc _ _ _ _ _ _ _ _ e hd hx
          split at h
          · rename_i he
            split at h
            · rename_i v hv
              have he' : e = .normal ∨ e = .ret := by cases e <;> first | exact .inl rfl | exact .inr rfl | (simp [Exit.fine] at he)
              split at h
              · rename_i hfl
                simp only [Bool.and_eq_true, decide_eq_true_eq] at hfl
                simp only [Option.some.injEq] at h
                subst h
                refine ⟨hfn.go, ?_, fun _ => ⟨rfl, rfl⟩, Nat.le_refl _, fun _ _ _ => rfl, hd⟩
                refine fnC_of_rwp hfn hm hna fun hdom => ?_
                refine rwp_may (may := fun i => low ≤ i) (fun i hi hn => by show n ≤ i; omega) (hs2 low _ (Nat.le_refl _) ?_)
                refine ⟨he', v, hv, .inl ⟨id, Nat.le_refl _, fun _ _ => rfl, fun i h1 _ => h1, fun i j _ _ h => h, flatR_ren hfl.1, fun i o hi => ?_, fun i _ h => h⟩⟩
                have hi : g i = some o := hi
                have hlt := hdom i (by rw [hi]; simp)
                refine ⟨hlt, .inl ⟨hlt, hi, ?_⟩⟩
                rw [hs1.same i (by omega) hlt]; exact hi
              · simp only [Option.some.injEq] at h
                subst h
                refine ⟨hfn.go, ?_, fun e => (by cases e), hs1.le, hs1.same, hs1.dom⟩
                refine fnC_of_rwp hfn hm hna fun hdom => ?_
                exact rwp_may (may := fun i => low ≤ i) (fun i hi _ => hi) (hs2 low _ (Nat.le_refl _) ⟨he', v, hv, .inr ⟨rfl, rfl, rfl⟩⟩)
            · cases h
          · cases h
        · cases h
      · cases h
end
end Go.Proofs.YtkcahnefekkfaaaAbs

namespace Go.Proofs.YtkcahnefekkfaaaAbs
open Go Go.RowKit Go.ChangeShapes Go.WideShapes Go.ChangeAt
variable [Base]

/-- Kinds of cells. -/
inductive LK where
  | int (k : IntKind)
  | bool
  | float (k : FloatKind)
  | str
inductive CK where
  | flat (k : LK)
  | slice (el : TypeId)
def LK.is : LK → Value → Prop
  | .int k, v => ∃ x, v = .int k x ∧ (Lit.int k x).wf = true
  | .bool, v => ∃ b, v = .bool b
  | .float k, v => ∃ b, v = .float k b ∧ (Lit.float k b).wf = true
  | .str, v => ∃ s, v = .string s ∧ s.size ≤ maxLen
theorem LK.flat {k : LK} {v : Value} (h : k.is v) : flatV v = true := by
  cases k <;> simp only [LK.is] at h
  · obtain ⟨x, rfl, _⟩ := h; rfl
  · obtain ⟨x, rfl⟩ := h; rfl
  · obtain ⟨x, rfl, _⟩ := h; rfl
  · obtain ⟨x, rfl, _⟩ := h; rfl

section
variable {H : Type} (enc : TypeId × Value → H) (P : Program) (W : World)
def CK.is : CK → Value → Prop
  | .flat k, v => k.is v
  | .slice el, v => v = .slice none 0 0 ∨ ∃ a len cap fuel, v = .slice (some a) len cap ∧ len ≤ cap ∧ cap ≤ maxLen ∧ ∀ i, i < cap → ∃ cs y, W.cells? 0 (a.add (i * P.cellsOf el)) (P.cellsOf el) = some cs ∧ DataW.trod enc P W 0 (fun _ => true) true fuel el cs = some y
/-- Cell by cell. -/
structure Cells (ks : List CK) (cs : List Value) : Prop where
  len : ks.length = cs.length
  at_ : ∀ (i : Nat) (h1 : i < ks.length) (h2 : i < cs.length), (ks[i]).is enc P W cs[i]
end

def ckArr (n : Nat) (ks : List CK) : List CK := (List.replicate n ks).flatten
def ckFields (ck : TypeId → Option (List CK)) (sz : TypeId → Nat) : List Field → Nat → Option (List CK)
  | [], _ => some []
  | f :: r, off => if f.offset = off then match ck f.type with
      | some ks => if ks.length = sz f.type then (ckFields ck sz r (off + ks.length)).map (ks ++ ·) else none
      | none => none
    else none
/-- The kinds of a type's cells. -/
def ckinds (P : Program) : Nat → TypeId → Option (List CK)
  | 0, _ => none
  | d + 1, t => match P.underlying t with
    | some (.int k) => some [.flat (.int k)]
    | some .bool => some [.flat .bool]
    | some (.float k) => some [.flat (.float k)]
    | some .string => some [.flat .str]
    | some (.slice el) => some [.slice el]
    | some (.struct fs) => match ckFields (ckinds P d) P.cellsOf fs.toList 0 with
      | some ks => if ks.length = P.cellsOf t then some ks else none
      | none => none
    | some (.array n el) => match ckinds P d el with
      | some ks => if ks.length = P.cellsOf el ∧ (ckArr n ks).length = P.cellsOf t then some (ckArr n ks) else none
      | none => none
    | _ => none

section
variable {H : Type} {enc : TypeId × Value → H} {P : Program} {W : World}
theorem Cells.nil : Cells enc P W [] [] := ⟨rfl, fun i h => by simp at h⟩
theorem Cells.append {ks ks' : List CK} {cs cs' : List Value} (h : Cells enc P W ks cs) (h' : Cells enc P W ks' cs') : Cells enc P W (ks ++ ks') (cs ++ cs') := by
  refine ⟨by simp [h.len, h'.len], fun i h1 h2 => ?_⟩
  by_cases hi : i < ks.length
  · have hi' : i < cs.length := by rw [← h.len]; exact hi
    simp only [List.getElem_append, hi, hi', dif_pos]
    exact h.at_ i hi hi'
  · have hi' : ¬ i < cs.length := by rw [← h.len]; exact hi
    simp only [List.getElem_append, hi, hi', dif_neg, not_false_eq_true]
    have := h'.at_ (i - ks.length) (by simp at h1; omega) (by simp at h2; rw [h.len]; omega)
    simpa [h.len] using this
theorem Cells.one {k : CK} {v : Value} (h : k.is enc P W v) : Cells enc P W [k] [v] := ⟨rfl, fun i h1 h2 => by
  have : i = 0 := by simp at h1; omega
  subst this; exact h⟩

theorem ckinds_sound : ∀ (d : Nat) (t : TypeId) (ks : List CK) (fuel : Nat) (cs : List Value) (x : DataW H × List MemPlace), ckinds P d t = some ks → DataW.trod enc P W 0 (fun _ => true) true fuel t cs = some x → Cells enc P W ks cs
  | 0, t, ks, fuel, cs, x, h, _ => by simp [ckinds] at h
  | d + 1, t, ks, fuel, cs, x, h, hx => by
    simp only [ckinds] at h
    split at h
    · rename_i k hu
      cases h
      obtain ⟨n, rfl, _, hw⟩ := DataW.trod_int hu hx
      exact .one ⟨n, rfl, hw⟩
    · rename_i hu
      cases h
      obtain ⟨b, rfl, _⟩ := DataW.trod_bool hu hx
      exact .one ⟨b, rfl⟩
    · rename_i k hu
      cases h
      cases fuel with
      | zero => simp [DataW.trod] at hx
      | succ fuel =>
        unfold DataW.trod at hx
        rw [hu] at hx
        split at hx <;> simp_all
        rename_i b _
        obtain ⟨⟨rfl, hw⟩, _⟩ := hx
        exact .one ⟨b, rfl, hw⟩
    · rename_i hu
      cases h
      obtain ⟨s, rfl, _, hs⟩ := DataW.trod_string hu hx
      exact .one ⟨s, rfl, hs⟩
    · rename_i el hu
      cases h
      rcases Deep.open_slice hu hx with ⟨rfl, _⟩ | ⟨a, len, cap, m, n, D, Pl, rfl, _, hl, hc, hm, _, hel⟩
      · exact .one (.inl rfl)
      · simp only [if_true] at hm
        subst hm
        refine .one (.inr ⟨a, len, m, n, rfl, hl, hc, fun i hi => ?_⟩)
        obtain ⟨cs', h1, h2⟩ := hel i hi
        exact ⟨cs', _, h1, h2⟩
    · rename_i fs hu
      obtain ⟨xs, n, _, _, hl, hlen0, hf⟩ := DataW.trod_struct hu hx
      have key : ∀ (r : List Field) (off : Nat) (ks : List CK) (i0 : Nat), ckFields (ckinds P d) P.cellsOf r off = some ks → (∀ (j : Nat) (f : Field), r[j]? = some f → fs.toList[i0 + j]? = some f) →
          off + ks.length ≤ cs.length → Cells enc P W ks ((cs.drop off).take ks.length) := by
        intro r
        induction r with
        | nil => intro off ks i0 h _ _; simp only [ckFields, Option.some.injEq] at h; subst h; simp; exact .nil
        | cons f r ih =>
          intro off ks i0 h hfs hlen
          simp only [ckFields] at h
          split at h
          · rename_i hoff
            subst hoff
            split at h
            · rename_i k1 hk1
              split at h
              · rename_i hsz
                simp only [Option.map_eq_some_iff] at h
                obtain ⟨k2, hk2, rfl⟩ := h
                have h0 := hfs 0 f rfl
                have hfi : fs[i0]? = some f := by simpa using h0
                have hx0 : ∃ y, DataW.trod enc P W 0 (fun _ => true) true n f.type ((cs.drop f.offset).take (P.cellsOf f.type)) = some y := by
                  have := hf i0 f hfi
                  have hlt : i0 < xs.length := by rw [hlen0]; exact (Array.getElem?_eq_some_iff.1 hfi).1
                  rw [List.getElem?_eq_getElem hlt] at this
                  exact ⟨_, this⟩
                obtain ⟨y, hy⟩ := hx0
                have c1 := ckinds_sound d f.type k1 n _ y hk1 hy
                rw [← hsz] at c1
                have c2 := ih (f.offset + k1.length) k2 (i0 + 1) hk2 (fun j f' hj => by have := hfs (j + 1) f' (by simpa using hj); rwa [show i0 + (j + 1) = i0 + 1 + j by omega] at this) (by simp at hlen; omega)
                have := c1.append c2
                rw [List.length_append, List.take_add, List.drop_drop]
                exact this
              · cases h
            · cases h
          · cases h
      split at h
      · rename_i ks' hks
        split at h
        · rename_i hlen
          cases h
          have := key fs.toList 0 ks 0 hks (fun j f hj => by simpa using hj) (by omega)
          simp only [List.drop_zero] at this
          rw [hlen, ← hl, List.take_length] at this
          exact this
        · cases h
      · cases h
    · rename_i m el hu
      obtain ⟨xs, n, _, _, hl, hlen0, hf⟩ := DataW.trod_array hu hx
      split at h
      · rename_i k1 hk1
        split at h
        · rename_i hsz
          obtain ⟨hsz, hlen⟩ := hsz
          cases h
          have key : ∀ (j i0 : Nat), i0 + j = m → Cells enc P W (ckArr j k1) ((cs.drop (i0 * k1.length)).take (ckArr j k1).length) := by
            intro j
            induction j with
            | zero => intro i0 _; simp [ckArr]; exact .nil
            | succ j ih =>
              intro i0 hi
              have hlt : i0 < xs.length := by rw [hlen0]; omega
              have hx0 := hf i0 (by omega)
              rw [List.getElem?_eq_getElem hlt] at hx0
              have c1 := ckinds_sound d el k1 n _ _ hk1 hx0
              rw [← hsz] at c1
              have c2 := ih (i0 + 1) (by omega)
              have := c1.append c2
              have e : ckArr (j + 1) k1 = k1 ++ ckArr j k1 := by simp [ckArr, List.replicate_succ]
              rw [e, List.length_append, List.take_add, List.drop_drop]
              rw [show (i0 + 1) * k1.length = i0 * k1.length + k1.length by rw [Nat.succ_mul]] at this
              exact this
          have := key m 0 (by omega)
          simp only [Nat.zero_mul, List.drop_zero] at this
          rw [hlen, ← hl, List.take_length] at this
          exact this
        · cases h
      · cases h
    · cases h
end
end Go.Proofs.YtkcahnefekkfaaaAbs

namespace Go.Proofs.YtkcahnefekkfaaaAbs
open Go Go.RowKit Go.ChangeShapes Go.WideShapes Go.ChangeAt
variable [Base]

def flatOr (v : Value) : Value := if flatV v = true then v else junk
/-- The heap as the call found it: what holds no address is known. -/
def heapView (W : World) : AMem := fun i => match W.heap[i]? with
  | some (.cells c _ _) => some (.row (c.toList.map flatOr) false)
  | _ => none
def idR (W : World) : Nat → Option Nat := fun i => if i < W.heap.size then some i else none
theorem flatOr_rel (ρ : Nat → Option Nat) (sz : Nat → Nat) (v : Value) : VRel ρ sz (flatOr v) v := by
  unfold flatOr
  split
  · exact flatV_rel ‹_›
  · exact .junk _
theorem heapView_rep (W : World) : GRep (idR W) (heapView W) W.heap.size W := by
  refine ⟨fun i o hi => ?_, fun i j b _ _ hi hj => ?_, fun i hi => if_neg (by omega), fun i b hi => ?_⟩
  · unfold heapView at hi
    split at hi
    · rename_i c t fr hw
      cases hi
      have hlt := (Array.getElem?_eq_some_iff.1 hw).1
      refine ⟨i, _, if_pos hlt, hw, .row _ _ _ _ _ (fun h => by cases h) (by simp) ⟨by simp, fun k h1 h2 => ?_⟩⟩
      simp only [List.getElem_map, List.getElem_take]
      exact flatOr_rel _ _ _
    · cases hi
  · unfold idR at hi hj
    split at hi <;> split at hj <;> simp_all
  · unfold idR at hi
    split at hi
    · cases hi; assumption
    · cases hi

/-- An argument's cell as an abstract value. -/
def absV (P : Program) : CK → Value → Value
  | .slice el, .slice (some a) len cap => if cap = 0 then .slice (some ⟨0, 0, some 0⟩) 0 (P.cellsOf el) else .slice (some ⟨a.block, a.off, none⟩) len (P.cellsOf el)
  | _, v => v

section
variable {H : Type} {enc : TypeId × Value → H} {P : Program} {W : World}
theorem cells?_get {a : Addr} {k : Nat} {cs : List Value} (h : W.cells? 0 a k = some cs) : cs.length = k ∧ ∀ j v, cs[j]? = some v → W.cell? (a.add j) = some v := by
  unfold World.cells? at h
  rw [if_pos (Nat.zero_le _)] at h
  have key : ∀ (l : List Nat) (cs : List Value), l.mapM (fun i => W.cell? (a.add i)) = some cs → cs.length = l.length ∧ ∀ (j : Nat) (v : Value), cs[j]? = some v → ∃ i : Nat, l[j]? = some i ∧ W.cell? (a.add i) = some v := by
    intro l
    induction l with
    | nil => intro cs h; simp at h; subst h; exact ⟨rfl, fun j v hj => by simp at hj⟩
    | cons i l ih =>
      intro cs h
      simp only [List.mapM_cons, Option.bind_eq_bind, Option.bind_eq_some_iff, Option.pure_def, Option.some.injEq] at h
      obtain ⟨x, hx, xs, hxs, rfl⟩ := h
      obtain ⟨h1, h2⟩ := ih xs hxs
      refine ⟨by simp [h1], fun j v hj => ?_⟩
      cases j with
      | zero => simp at hj; subst hj; exact ⟨i, rfl, hx⟩
      | succ j => simpa using h2 j v (by simpa using hj)
  obtain ⟨h1, h2⟩ := key _ _ h
  refine ⟨by simpa using h1, fun j v hj => ?_⟩
  obtain ⟨i, hi, hv⟩ := h2 j v hj
  rw [List.getElem?_range] at hi
  · cases hi; exact hv
  · have := (List.getElem?_eq_some_iff.1 hj).1
    rw [h1] at this; simpa using this
theorem cell?_row {a : Addr} {v : Value} (h : W.cell? a = some v) : a.spot = none ∧ ∃ c t fr, W.heap[a.block]? = some (.cells c t fr) ∧ c[a.off]? = some v := by
  unfold World.cell? at h
  split at h
  · rename_i c t fr hw
    split at h
    · cases h
    · rename_i hs
      exact ⟨by simpa using hs, c, t, fr, hw, h⟩
  · cases h

theorem absV_flat {k : LK} {v : Value} (h : (CK.flat k).is enc P W v) : absV P (.flat k) v = v ∧ VRel (idR W) (szOf W) v v :=
  ⟨rfl, flatV_rel (LK.flat h)⟩

/-- **A slice that is read.** -/
theorem absV_slice {el d : Nat} {ks : List CK} {v : Value} (hk : ckinds P d el = some ks) (hflat : ∀ k ∈ ks, ∃ l, k = .flat l) (hlen : ks.length = P.cellsOf el) (hpos : 0 < P.cellsOf el) (h : (CK.slice el).is enc P W v) :
    VRel (idR W) (szOf W) (absV P (.slice el) v) v ∧ ∃ m xs, aRead (heapView W) (P.cellsOf el) (absV P (.slice el) v) = some (m, xs) ∧ xs.length = m * P.cellsOf el ∧ m ≤ maxLen ∧ ∀ i, i < m → Cells enc P W ks ((xs.drop (i * P.cellsOf el)).take (P.cellsOf el)) := by
  rcases h with rfl | ⟨a, len, cap, fuel, rfl, hl, hc, hel⟩
  · exact ⟨.sliceNil, 0, [], rfl, by simp, Nat.zero_le _, fun i hi => by omega⟩
  · by_cases h0 : cap = 0
    · subst h0
      have : len = 0 := by omega
      subst this
      simp only [absV, if_true]
      exact ⟨.sliceLost _ _ _ _ rfl, 0, [], rfl, by simp, Nat.zero_le _, fun i hi => by omega⟩
    · simp only [absV, if_neg h0]
      -- the row
      obtain ⟨cs0, y0, hcs0, hy0⟩ := hel 0 (by omega)
      obtain ⟨hcl0, hcg0⟩ := cells?_get hcs0
      have hx0 : ∃ x, cs0[0]? = some x := ⟨_, List.getElem?_eq_getElem (by omega)⟩
      obtain ⟨x0, hx0⟩ := hx0
      have hcell0 := hcg0 0 x0 hx0
      simp only [Nat.zero_mul] at hcell0
      have hadd0 : ∀ b : Addr, b.add 0 = b := fun b => by simp [Addr.add]
      rw [hadd0, hadd0] at hcell0
      obtain ⟨hspot, c, t, fr, hw, _⟩ := cell?_row hcell0
      obtain ⟨ab, ao, asp⟩ := a
      simp only at hspot hw
      subst hspot
      have hlt := (Array.getElem?_eq_some_iff.1 hw).1
      have hcell : ∀ i, i < cap → ∃ cs y, cs.length = P.cellsOf el ∧ DataW.trod enc P W 0 (fun _ => true) true fuel el cs = some y ∧ ∀ j v, cs[j]? = some v → c[ao + i * P.cellsOf el + j]? = some v := fun i hi => by
        obtain ⟨cs, y, h1, h2⟩ := hel i hi
        obtain ⟨h3, h4⟩ := cells?_get h1
        refine ⟨cs, y, h3, h2, fun j v hj => ?_⟩
        have := h4 j v hj
        rw [add_none, add_none] at this
        simp only [World.cell?, hw] at this
        simpa using this
      have hsz : ao + cap * P.cellsOf el ≤ c.size := by
        obtain ⟨cs, y, h1, h2, h3⟩ := hcell (cap - 1) (by omega)
        have hj : cs[P.cellsOf el - 1]? = some cs[P.cellsOf el - 1] := List.getElem?_eq_getElem (by omega)
        have := (Array.getElem?_eq_some_iff.1 (h3 _ _ hj)).1
        have hmul : (cap - 1) * P.cellsOf el + P.cellsOf el = cap * P.cellsOf el := by
          rw [← Nat.succ_mul]; congr 1; omega
        omega
      have hll : len * P.cellsOf el ≤ cap * P.cellsOf el := Nat.mul_le_mul_right _ hl
      refine ⟨.slice _ _ _ _ _ _ (if_pos hlt) hl (by rw [szOf_at hw]; exact hsz), len, ((c.toList.map flatOr).drop ao).take (len * P.cellsOf el), ?_, ?_, by omega, fun i hi => ?_⟩
      · unfold aRead
        by_cases hl0 : len = 0
        · subst hl0; simp
        · simp only [hl0, if_false, true_and, if_true]
          have : heapView W ab = some (.row (c.toList.map flatOr) false) := by simp [heapView, hw]
          simp only [this]
          rw [if_pos (by simp; omega)]
      · simp; omega
      · obtain ⟨cs, y, h1, h2, h3⟩ := hcell i (by omega)
        have hck := ckinds_sound d el ks fuel cs y hk h2
        have e : ((((c.toList.map flatOr).drop ao).take (len * P.cellsOf el)).drop (i * P.cellsOf el)).take (P.cellsOf el) = cs := by
          apply List.ext_getElem?
          intro j
          have hil : i * P.cellsOf el + P.cellsOf el ≤ len * P.cellsOf el := by rw [← Nat.succ_mul]; exact Nat.mul_le_mul_right _ hi
          by_cases hj : j < P.cellsOf el
          · have hcj : cs[j]? = some cs[j] := List.getElem?_eq_getElem (by omega)
            have hcc := h3 j _ hcj
            have hf : flatV cs[j] = true := by
              have hkj := hck.at_ j (by omega) (by omega)
              obtain ⟨lk, hlk⟩ := hflat ks[j] (List.getElem_mem _)
              rw [hlk] at hkj
              exact LK.flat hkj
            rw [List.getElem?_take, if_pos hj, List.getElem?_drop, List.getElem?_take, if_pos (by omega), List.getElem?_drop, List.getElem?_map]
            rw [show ao + (i * P.cellsOf el + j) = ao + i * P.cellsOf el + j by omega]
            simp only [Array.getElem?_toList, hcc, Option.map_some, flatOr, hf, if_true, hcj]
          · rw [List.getElem?_take, if_neg hj, List.getElem?_eq_none (by omega)]
        rw [e]; exact hck

/-- **The law's call.** -/
theorem law_calls (hB : BaseW W) {f : FuncId} {args : Array Value} {avs : List Value} {g' : AMem} {n' : Nat} (h : FnC P f avs (heapView W) W.heap.size (fun _ => False) (.bool true) g' n') (hr : VRs (idR W) (szOf W) avs args.toList) (hx : extFn P f = none := by kernel_rfl) :
    Calls P f args W fun e W' => e = .returned (.bool true) ∧ Below W.heap.size W W' := by
  refine ((h (idR W) W args ⟨hB, fun _ _ _ h => h.elim⟩ (heapView_rep W) hr).to hx).mono fun e W' he => ?_
  obtain ⟨cv, ρ', rfl, ht⟩ := he
  have hcv : cv = .bool true := flat_eq ht.val rfl
  subst hcv
  exact ⟨rfl, ht.frame.os, ht.frame.tape, ht.frame.output, ht.frame.size, fun b hb => ht.frame.block b hb fun ⟨i, _, hi, _⟩ => hi⟩

theorem trodAll_stays (hl : laidOutB P = true) {W' : World} (hb : Below W.heap.size W W') : ∀ (ts : List TypeId) (vs : List Value) (ds : List (DataW H)) (ps : List MemPlace), (∀ t ∈ ts, P.readableRec t = true ∧ t < P.types.size) →
    DataW.TrodAll enc P W 0 (fun _ => true) true ts vs ds ps → (∀ x ∈ ps, x.block < W.heap.size) → DataW.TrodAll enc P W' 0 (fun b => decide (b < W.heap.size)) true ts vs ds ps
  | [], vs, ds, ps, _, h, _ => by
    obtain ⟨rfl, rfl, rfl⟩ := trodAll_nil h
    exact trodAll_mk0
  | t :: ts, vs, ds, ps, ht, h, hlt => by
    obtain ⟨v, vs', d, ds', p, q, rfl, rfl, rfl, h1, h2⟩ := trodAll_cons h
    exact trodAll_cons_mk (Below.trod hl (ht t (by simp)).1 (ht t (by simp)).2 h1 hb fun x hx => hlt x (by simp [hx]))
      (trodAll_stays hl hb ts vs' ds' q (fun t' ht' => ht t' (by simp [ht'])) h2 fun x hx => hlt x (by simp [hx]))

/-- A call without arguments that holds no address, wherever it is made: as at the run. -/
theorem FnC.closed {f : FuncId} {args : List Value} {v : Value} {touch : Nat → Prop} {g' : AMem} {n' : Nat} (h : FnC P f args (fun _ => none) 0 touch v g' n') (ha : args.all pureV = true) (hv : flatR v = true) (g : AMem) (n : Nat) : FnC P f args g n (fun _ => False) v g n := by
  intro ρ w cargs hbase hrep hargs
  have hrep0 : GRep (fun _ => none) (fun _ => none) 0 w := ⟨fun i o hi => by simp at hi, fun i j b hi => absurd rfl hi, fun i _ => rfl, fun i b hi => by simp at hi⟩
  have hargs0 : VRs (fun _ => none) (szOf w) args cargs.toList := ⟨hargs.len, fun i h1 h2 => by
    have hp := List.all_eq_true.1 ha _ (List.getElem_mem h1)
    have := pure_eq (hargs.at_ i h1 h2) hp
    rw [this]; exact pureV_rel hp⟩
  refine (h _ w cargs ⟨hbase.base, fun i b hi => by omega⟩ hrep0 hargs0).mono fun e w' he => ?_
  obtain ⟨cv, ρ', rfl, ht⟩ := he
  have hval : VRel ρ (szOf w') v cv := by
    have key : VRen 0 id v v := flatR_ren hv
    have := key.rel (ρ := ρ') cv (by simpa using ht.val)
    exact this.mono (fun i b hi => by simp at hi) fun _ => Nat.le_refl _
  have hfr : Frame0 (fun _ => False) w w' := ht.frame.mono fun b _ ⟨i, hi, _⟩ => by omega
  refine ⟨cv, ρ, rfl, hval, ⟨fun i o hi => ?_, hrep.inj, hrep.dom, fun i b hi => Nat.lt_of_lt_of_le (hrep.old i b hi) hfr.size⟩, Nat.le_refl _, fun _ _ => rfl, hfr.mono fun b _ h => h.elim, fun j b hj hb => ?_, fun _ _ h => h⟩
  · obtain ⟨b, co, h1, h2, h3⟩ := hrep.obj i o hi
    have hb := (Array.getElem?_eq_some_iff.1 h2).1
    exact ⟨b, co, h1, by rw [hfr.block b hb id]; exact h2, h3.mono (fun _ _ h => h) hfr.cells⟩
  · rw [hrep.dom j hj] at hb; cases hb
end
end Go.Proofs.YtkcahnefekkfaaaAbs

namespace Go.Proofs.YtkcahnefekkfaaaAbs
open Go Go.RowKit
variable [Base]

/-- A list of elements, each of 'e' cells, as cells. -/
theorem flat_elem {α : Type} {enc : α → List Value} {e : Nat} (he : ∀ x, (enc x).length = e) : ∀ (xs : List α) (i : Nat) (h : i < xs.length), ((xs.flatMap enc).drop (i * e)).take e = enc xs[i]
  | x :: xs, 0, h => by
    simp only [List.flatMap_cons, Nat.zero_mul, List.drop_zero, List.getElem_cons_zero]
    rw [← he x]; exact List.take_left
  | x :: xs, i + 1, h => by
    simp only [List.flatMap_cons, List.getElem_cons_succ]
    rw [Nat.succ_mul, Nat.add_comm, ← List.drop_drop]
    have : (enc x ++ xs.flatMap enc).drop e = xs.flatMap enc := by rw [← he x]; exact List.drop_left
    rw [this]
    exact flat_elem he xs i (by simpa using h)
theorem flat_length {α : Type} {enc : α → List Value} {e : Nat} (he : ∀ x, (enc x).length = e) (xs : List α) : (xs.flatMap enc).length = xs.length * e := by
  induction xs with
  | nil => simp
  | cons x xs ih => simp only [List.flatMap_cons, List.length_append, he, ih, List.length_cons, Nat.succ_mul]; omega

/-- 'v' is a slice whose elements are 'xs', each of 'e' cells. -/
def Rd {α : Type} (g : AMem) (e : Nat) (enc : α → List Value) (v : Value) (xs : List α) : Prop := aRead g e v = some (xs.length, xs.flatMap enc)

theorem aRead_form {g : AMem} {e : Nat} {v : Value} {m : Nat} {ys : List Value} (h : aRead g e v = some (m, ys)) : ∃ a e', v = .slice a m e' := by
  unfold aRead at h
  split at h
  · cases h; exact ⟨_, _, rfl⟩
  · rename_i a m' e'
    split at h
    · rename_i hm; cases h; exact ⟨_, _, by rw [hm]⟩
    · split at h
      · split at h
        · split at h
          · cases h; exact ⟨_, _, rfl⟩
          · cases h
        · cases h
      · cases h
  · cases h
theorem aRead_row {g : AMem} {e : Nat} {v : Value} {m : Nat} {ys : List Value} (h : aRead g e v = some (m, ys)) (hm : 0 < m) :
    ∃ b o cs rw_, v = .slice (some ⟨b, o, none⟩) m e ∧ g b = some (.row cs rw_) ∧ o + m * e ≤ cs.length ∧ ys = (cs.drop o).take (m * e) := by
  unfold aRead at h
  split at h
  · cases h; omega
  · rename_i a m' e'
    split at h
    · cases h; omega
    · split at h
      · rename_i hcond
        split at h
        · rename_i cs rw_ hg
          split at h
          · rename_i hl
            cases h
            obtain ⟨b, o, s⟩ := a
            obtain ⟨rfl, rfl⟩ := hcond
            exact ⟨b, o, cs, rw_, rfl, hg, hl, rfl⟩
          · cases h
        · cases h
      · cases h
  · cases h
theorem Rd.form {α : Type} {g : AMem} {e : Nat} {enc : α → List Value} {v : Value} {xs : List α} (h : Rd g e enc v xs) : ∃ a e', v = .slice a xs.length e' := aRead_form h
/-- What reads in one heap reads in each that has the same. -/
theorem aRead_mono {g g' : AMem} {e : Nat} {v : Value} {x : Nat × List Value} (hg : ∀ i o, g i = some o → g' i = some o) (h : aRead g e v = some x) : aRead g' e v = some x := by
  unfold aRead at h ⊢
  split at h
  · exact h
  · split at h
    · rename_i h0; rw [if_pos h0]; exact h
    · rename_i h0
      rw [if_neg h0]
      split at h
      · rename_i hc
        rw [if_pos hc]
        split at h
        · rename_i cs r hgb
          rw [hg _ _ hgb]; exact h
        · cases h
      · cases h
  · cases h
theorem Rd.mono {α : Type} {g g' : AMem} {e : Nat} {enc : α → List Value} {v : Value} {xs : List α} (hg : ∀ i o, g i = some o → g' i = some o) (h : Rd g e enc v xs) : Rd g' e enc v xs := aRead_mono hg h
theorem same_below {g g' : AMem} {n : Nat} (hd : ∀ i, g i ≠ none → i < n) (h : ∀ i, i < n → g' i = g i) : ∀ i o, g i = some o → g' i = some o := fun i o hi => by
  rw [h i (hd i (by rw [hi]; simp))]; exact hi

section
variable {α : Type} {g : AMem} {e : Nat} {enc : α → List Value} {v : Value} {xs : List α}
/-- The place of an element, and what lies there. -/
theorem Rd.elem (h : Rd g e enc v xs) (he : ∀ x, (enc x).length = e) {i : Nat} (hi : i < xs.length) :
    ∃ b o cs rw_, v = .slice (some ⟨b, o, none⟩) xs.length e ∧ g b = some (.row cs rw_) ∧ o + i * e + e ≤ cs.length ∧ (cs.drop (o + i * e)).take e = enc xs[i] ∧ ∀ j, j < e → nth cs (o + i * e + j) = nth (enc xs[i]) j := by
  obtain ⟨b, o, cs, rw_, h1, h2, h3, h4⟩ := aRead_row h (by omega)
  have hie : i * e + e ≤ xs.length * e := by rw [← Nat.succ_mul]; exact Nat.mul_le_mul_right _ hi
  have hel : (cs.drop (o + i * e)).take e = enc xs[i] := by
    rw [← flat_elem he xs i hi, h4]
    apply List.ext_getElem?
    intro j
    by_cases hj : j < e
    · rw [List.getElem?_take, if_pos hj, List.getElem?_drop, List.getElem?_take, if_pos hj, List.getElem?_drop, List.getElem?_take, if_pos (by omega), List.getElem?_drop]
      congr 1; omega
    · rw [List.getElem?_take, if_neg hj, List.getElem?_take, if_neg hj]
  refine ⟨b, o, cs, rw_, h1, h2, by omega, hel, fun j hj => ?_⟩
  rw [← nth_eq, ← nth_eq, ← hel, List.getElem?_take, if_pos hj, List.getElem?_drop]
end
/-- An element as a whole, loaded. -/
theorem load_elem {P : Program} {g : AMem} {t b p e : Nat} {cs : List Value} {rw_ : Bool} {x : List Value} (hg : g b = some (.row cs rw_)) (ha : tagg P t = some true) (hs : tsize P t = some e) (hl : p + e ≤ cs.length) (hx : (cs.drop p).take e = x) : aLoad P g t (.pointer (some ⟨b, p, none⟩)) = some (.agg x.toArray) := by
  rw [aLoad_eq, hg, ha, hs, aLoadR_agg, if_pos hl, hx]
theorem load_elem1 {P : Program} {g : AMem} {t b p : Nat} {cs : List Value} {rw_ : Bool} {x : Value} (hg : g b = some (.row cs rw_)) (ha : tagg P t = some false) (hx : nth cs p = some x) : aLoad P g t (.pointer (some ⟨b, p, none⟩)) = some x := by
  rw [aLoad_eq, hg, ha, aLoadR_one, hx]
end Go.Proofs.YtkcahnefekkfaaaAbs

namespace Go.Proofs.YtkcahnefekkfaaaAbs
open Go Go.RowKit
variable [Base]

/-- A word. -/
def U (w : BitVec 64) : Value := .int .u64 (w.toNat : Int)
/-- A word as a number. -/
def uI (w : BitVec 64) : Int := (w.toNat : Int)
theorem uI_lt (w : BitVec 64) : 0 ≤ uI w ∧ uI w < 18446744073709551616 := ⟨Int.natCast_nonneg _, by have := w.isLt; unfold uI; omega⟩
theorem wrap_u64_mod (x : Int) : IntKind.u64.wrap x = x % 18446744073709551616 := by
  simp [IntKind.wrap, IntKind.bits, IntKind.signed]
theorem wrap_u64_nat (x : Nat) : IntKind.u64.wrap (x : Int) = ((x % 18446744073709551616 : Nat) : Int) := by
  rw [wrap_u64_mod]; omega
theorem ofInt_toNat (x : BitVec 64) : BitVec.ofInt 64 (x.toNat : Int) = x := by
  apply BitVec.eq_of_toNat_eq
  simp
theorem u_and (x y : BitVec 64) : bAnd .u64 (x.toNat : Int) (y.toNat : Int) = ((x &&& y).toNat : Int) := by
  show IntKind.u64.wrap ((BitVec.ofInt 64 (x.toNat : Int) &&& BitVec.ofInt 64 (y.toNat : Int) : BitVec 64).toNat : Int) = _
  rw [ofInt_toNat, ofInt_toNat, wrap_u64_nat, Nat.mod_eq_of_lt (x &&& y).isLt]
theorem u_or (x y : BitVec 64) : bOr .u64 (x.toNat : Int) (y.toNat : Int) = ((x ||| y).toNat : Int) := by
  show IntKind.u64.wrap ((BitVec.ofInt 64 (x.toNat : Int) ||| BitVec.ofInt 64 (y.toNat : Int) : BitVec 64).toNat : Int) = _
  rw [ofInt_toNat, ofInt_toNat, wrap_u64_nat, Nat.mod_eq_of_lt (x ||| y).isLt]
theorem u_xor (x y : BitVec 64) : bXor .u64 (x.toNat : Int) (y.toNat : Int) = ((x ^^^ y).toNat : Int) := by
  show IntKind.u64.wrap ((BitVec.ofInt 64 (x.toNat : Int) ^^^ BitVec.ofInt 64 (y.toNat : Int) : BitVec 64).toNat : Int) = _
  rw [ofInt_toNat, ofInt_toNat, wrap_u64_nat, Nat.mod_eq_of_lt (x ^^^ y).isLt]
theorem u_andNot (x y : BitVec 64) : bAndNot .u64 (x.toNat : Int) (y.toNat : Int) = ((x &&& ~~~ y).toNat : Int) := by
  show IntKind.u64.wrap ((BitVec.ofInt 64 (x.toNat : Int) &&& ~~~ BitVec.ofInt 64 (y.toNat : Int) : BitVec 64).toNat : Int) = _
  rw [ofInt_toNat, ofInt_toNat, wrap_u64_nat, Nat.mod_eq_of_lt (x &&& ~~~ y).isLt]
theorem u_add (x y : BitVec 64) : IntKind.u64.wrap ((x.toNat : Int) + (y.toNat : Int)) = ((x + y).toNat : Int) := by
  rw [wrap_u64_mod, BitVec.toNat_add]; omega
theorem u_sub (x y : BitVec 64) : IntKind.u64.wrap ((x.toNat : Int) - (y.toNat : Int)) = ((x - y).toNat : Int) := by
  have h1 := x.isLt; have h2 := y.isLt
  rw [wrap_u64_mod, BitVec.toNat_sub]; omega
theorem u_mul (x y : BitVec 64) : IntKind.u64.wrap ((x.toNat : Int) * (y.toNat : Int)) = ((x * y).toNat : Int) := by
  rw [wrap_u64_mod, BitVec.toNat_mul, ← Int.natCast_mul]; omega
theorem u_shl (x : BitVec 64) (b : Nat) : IntKind.u64.wrap ((x.toNat : Int) * 2 ^ (min b 64)) = ((x <<< b).toNat : Int) := by
  rw [show ((x.toNat : Int) * 2 ^ (min b 64)) = ((x.toNat * 2 ^ (min b 64) : Nat) : Int) by simp, wrap_u64_nat, BitVec.toNat_shiftLeft, Nat.shiftLeft_eq]
  by_cases h : b ≤ 64
  · rw [Nat.min_eq_left h]
  · rw [Nat.min_eq_right (by omega)]
    have e1 : x.toNat * 2 ^ 64 % 18446744073709551616 = 0 := by omega
    have e2 : x.toNat * 2 ^ b % 2 ^ 64 = 0 := by
      obtain ⟨c, rfl⟩ : ∃ c, b = 64 + c := ⟨b - 64, by omega⟩
      rw [Nat.pow_add, ← Nat.mul_assoc, Nat.mul_right_comm]; exact Nat.mul_mod_left _ _
    rw [e1, e2]
theorem u_shr (x : BitVec 64) (b : Nat) : ((x.toNat : Int).fdiv (2 ^ (min b 64))) = ((x >>> b).toNat : Int) := by
  have hx := x.isLt
  rw [BitVec.toNat_ushiftRight, Nat.shiftRight_eq_div_pow, Int.fdiv_eq_ediv_of_nonneg _ (by exact Int.le_of_lt (Int.pow_pos (by decide)))]
  have : ((2 : Int) ^ (min b 64)) = ((2 ^ (min b 64) : Nat) : Int) := by simp
  rw [this, ← Int.natCast_ediv]
  by_cases h : b ≤ 64
  · rw [Nat.min_eq_left h]
  · rw [Nat.min_eq_right (by omega)]
    have e1 : x.toNat / 2 ^ 64 = 0 := Nat.div_eq_of_lt hx
    have e2 : x.toNat / 2 ^ b = 0 := Nat.div_eq_of_lt (Nat.lt_of_lt_of_le hx (Nat.pow_le_pow_right (by decide) (by omega)))
    rw [e1, e2]
theorem u_shl1 (b : Nat) : IntKind.u64.wrap ((2 : Int) ^ (min b 64)) = (((1#64) <<< b).toNat : Int) := by
  have := u_shl 1#64 b
  simpa using this
section
variable {P : Program} {t : TypeId} {xo yo : Operand}
theorem ub_and (x y : BitVec 64) : aBin P .and t xo yo (U x) (U y) = some (U (x &&& y)) := by unfold U; rw [bin_and, u_and]
theorem ub_or (x y : BitVec 64) : aBin P .or t xo yo (U x) (U y) = some (U (x ||| y)) := by unfold U; rw [bin_or, u_or]
theorem ub_xor (x y : BitVec 64) : aBin P .xor t xo yo (U x) (U y) = some (U (x ^^^ y)) := by unfold U; rw [bin_xor, u_xor]
theorem ub_andNot (x y : BitVec 64) : aBin P .andNot t xo yo (U x) (U y) = some (U (x &&& ~~~ y)) := by unfold U; rw [bin_andNot, u_andNot]
theorem ub_add (x y : BitVec 64) : aBin P .add t xo yo (U x) (U y) = some (U (x + y)) := by unfold U; rw [bin_add, u_add]
theorem ub_sub (x y : BitVec 64) : aBin P .sub t xo yo (U x) (U y) = some (U (x - y)) := by unfold U; rw [bin_sub, u_sub]
theorem ub_mul (x y : BitVec 64) : aBin P .mul t xo yo (U x) (U y) = some (U (x * y)) := by unfold U; rw [bin_mul, u_mul]
theorem ub_shl (x : BitVec 64) {b : Int} {k : IntKind} (h : 0 ≤ b) : aBin P .shl t xo yo (U x) (.int k b) = some (U (x <<< b.toNat)) := by unfold U; rw [bin_shl h]; show some (Value.int _ (IntKind.u64.wrap ((x.toNat : Int) * 2 ^ min b.toNat 64))) = _; rw [u_shl]
theorem ub_shr (x : BitVec 64) {b : Int} {k : IntKind} (h : 0 ≤ b) : aBin P .shr t xo yo (U x) (.int k b) = some (U (x >>> b.toNat)) := by unfold U; rw [bin_shr h]; show some (Value.int _ ((x.toNat : Int).fdiv (2 ^ min b.toNat 64))) = _; rw [u_shr]
theorem ub_eql (x y : BitVec 64) : aBin P .eql t xo yo (U x) (U y) = some (.bool (decide (x = y))) := by
  unfold U; rw [bin_eql]; congr 2; rw [decide_eq_decide, Int.ofNat_inj]; exact ⟨BitVec.eq_of_toNat_eq, fun h => by rw [h]⟩
theorem ub_neq (x y : BitVec 64) : aBin P .neq t xo yo (U x) (U y) = some (.bool (decide (x ≠ y))) := by
  unfold U; rw [bin_neq]; congr 2; rw [decide_eq_decide, Ne, Ne, Int.ofNat_inj]; exact not_congr ⟨BitVec.eq_of_toNat_eq, fun h => by rw [h]⟩
theorem ub_lss (x y : BitVec 64) : aBin P .lss t xo yo (U x) (U y) = some (.bool (decide (x < y))) := by
  unfold U; rw [bin_lss]; congr 2; rw [decide_eq_decide, BitVec.lt_def]; omega
theorem ub_leq (x y : BitVec 64) : aBin P .leq t xo yo (U x) (U y) = some (.bool (decide (x ≤ y))) := by
  unfold U; rw [bin_leq]; congr 2; rw [decide_eq_decide, BitVec.le_def]; omega
theorem ub_gtr (x y : BitVec 64) : aBin P .gtr t xo yo (U x) (U y) = some (.bool (decide (y < x))) := by
  unfold U; rw [bin_gtr]; congr 2; rw [decide_eq_decide, BitVec.lt_def]; omega
theorem ub_geq (x y : BitVec 64) : aBin P .geq t xo yo (U x) (U y) = some (.bool (decide (y ≤ x))) := by
  unfold U; rw [bin_geq]; congr 2; rw [decide_eq_decide, BitVec.le_def]; omega
end
/-- A constant as a word. -/
theorem lit_u64 (m : Nat) (h : m < 18446744073709551616) : Value.int .u64 (no_index (OfNat.ofNat m : Int)) = U (BitVec.ofNat 64 m) := by
  unfold U; rw [BitVec.toNat_ofNat, Nat.mod_eq_of_lt (by exact h)]; rfl
theorem aEval_U (w : BitVec 64) (T : Regs) : aEval T (.const (U w)) = U w := rfl
theorem U_junk (w : BitVec 64) : isJunk (U w) = false := rfl
theorem U_cells (w : BitVec 64) : (U w).cells = #[U w] := rfl
theorem U_cellOk (w : BitVec 64) : cellOk (U w) = true := rfl
theorem U_pureV (w : BitVec 64) : pureV (U w) = true := rfl
theorem U_flatV (w : BitVec 64) : flatV (U w) = true := rfl
theorem U_inj {x y : BitVec 64} : U x = U y ↔ x = y := by
  unfold U; simp only [Value.int.injEq, true_and, Int.ofNat_inj]; exact ⟨BitVec.eq_of_toNat_eq, fun h => by rw [h]⟩
theorem ofInt_wrap (a : Int) : IntKind.u64.wrap a = ((BitVec.ofInt 64 a).toNat : Int) := by
  rw [wrap_u64_mod, BitVec.toNat_ofInt]
  have : (0 : Int) ≤ a % ((2 ^ 64 : Nat) : Int) := Int.emod_nonneg _ (by decide)
  omega
section
variable {P : Program} {src d : TypeId}
theorem conv_to_u64 {k : IntKind} {a : Int} (h1 : P.underlying src = some (.int k)) (h2 : P.underlying d = some (.int .u64)) : aConv P src d (.int k a) = some (U (BitVec.ofInt 64 a)) := by
  rw [conv_int h1 h2, ofInt_wrap]; rfl
theorem conv_of_u64 {k : IntKind} {w : BitVec 64} (h1 : P.underlying src = some (.int .u64)) (h2 : P.underlying d = some (.int k)) : aConv P src d (U w) = some (.int k (k.wrap (uI w))) := conv_int h1 h2
theorem conv_u64 {w : BitVec 64} (h1 : P.underlying src = some (.int .u64)) (h2 : P.underlying d = some (.int .u64)) : aConv P src d (U w) = some (U w) := by
  unfold U; rw [conv_int h1 h2, wrap_u64_nat, Nat.mod_eq_of_lt (by exact w.isLt)]
theorem ub_shr' {t : TypeId} {xo yo : Operand} (x b : BitVec 64) : aBin P .shr t xo yo (U x) (U b) = some (U (x >>> b)) := by
  show aBin P .shr t xo yo (U x) (.int .u64 (b.toNat : Int)) = _
  rw [ub_shr x (Int.natCast_nonneg _)]; rfl
theorem ub_shl' {t : TypeId} {xo yo : Operand} (x b : BitVec 64) : aBin P .shl t xo yo (U x) (U b) = some (U (x <<< b)) := by
  show aBin P .shl t xo yo (U x) (.int .u64 (b.toNat : Int)) = _
  rw [ub_shl x (Int.natCast_nonneg _)]; rfl
end
theorem splice_nil (xs : List Value) : splice xs 0 [] = xs := by simp [splice]
theorem splice_zero (x y : Value) (xs ys : List Value) : splice (x :: xs) 0 (y :: ys) = y :: splice xs 0 ys := by simp [splice]
theorem splice_step (x : Value) (xs ys : List Value) (k : Nat) (h : k ≠ 0) : splice (x :: xs) k ys = x :: splice xs (k - 1) ys := by
  obtain ⟨k, rfl⟩ : ∃ k', k = k' + 1 := ⟨k - 1, by omega⟩
  simp [splice, Nat.succ_add]
theorem gset_gset (g : AMem) (i : Nat) (o o' : Option AObj) : gset (gset g i o) i o' = gset g i o' := by
  funext j; simp only [gset]; split <;> rfl
end Go.Proofs.YtkcahnefekkfaaaAbs

namespace Go.Proofs.YtkcahnefekkfaaaAbs
open Go
variable [Base]
/-! Of a step, what it works out comes first. -/
@[congr] theorem rgd_congr {v v' : Value} {want : Bool} {yes no : Prop} (h : v = v') : rgd v want yes no = rgd v' want yes no := by rw [h]
@[congr] theorem rcond_congr {v v' : Value} {yes no : Prop} (h : v = v') : rcond v yes no = rcond v' yes no := by rw [h]
@[congr] theorem rval_congr {dst : Option Tmp} {K : RL → AMem → Nat → Prop} {l : RL} {g : AMem} {n : Nat} {v v' : Option Value} (h : v = v') : rval dst K l g n v = rval dst K l g n v' := by rw [h]
@[congr] theorem reff_congr {may : Nat → Prop} {dst : Option Tmp} {fl : Bool} {K : RL → AMem → Nat → Prop} {l : RL} {g : AMem} {n : Nat} {v v' : Option (Value × Eff)} (h : v = v') : reff may dst fl K l g n v = reff may dst fl K l g n v' := by rw [h]
@[congr] theorem rcall_congr {P : Program} {may : Nat → Prop} {f : FuncId} {args args' : List Value} {dst : Option Tmp} {fl : Bool} {K : RL → AMem → Nat → Prop} {l : RL} {g g' : AMem} {n : Nat} (h : args = args') (hg : g = g') : rcall P may f args dst fl K l g n = rcall P may f args' dst fl K l g' n := by rw [h, hg]
@[congr] theorem rwp_congr {P : Program} {may : Nat → Prop} {c : RCode} {Q : RPost} {l l' : RL} {g g' : AMem} {n n' : Nat} (hl : l = l') (h : g = g') (hn : n = n') : rwp P may c Q l g n = rwp P may c Q l' g' n' := by rw [h, hl, hn]
@[congr] theorem RDone_congr {P : Program} {rs : List ResultVar} {n : Nat} {g0 : AMem} {v : Value} {g' : AMem} {n' : Nat} {e : Exit} {l l' : RL} {g1 g2 : AMem} {n1 : Nat} (hl : l = l') (h : g1 = g2) : RDone P rs n g0 v g' n' e l g1 n1 = RDone P rs n g0 v g' n' e l' g2 n1 := by rw [h, hl]
end Go.Proofs.YtkcahnefekkfaaaAbs

namespace Go.Proofs.YtkcahnefekkfaaaAbs
open Go Go.RowKit
variable [Base]
section
variable {P : Program} {may : Nat → Prop}
theorem rrun_exact : ∀ (ops : List ROp) {K : RL → AMem → Nat → Prop} (l : RL) (g : AMem) (n : Nat), rrun P may ops K l g n →
    ∃ l' g' n', K l' g' n' ∧ ∀ K' : RL → AMem → Nat → Prop, K' l' g' n' → rrun P may ops K' l g n := by
  intro ops
  induction ops with
  | nil => intro K l g n h; exact ⟨l, g, n, h, fun K' h => h⟩
  | cons o rest ih =>
    intro K l g n h
    have doIt : rdo P may o.dst o.fl o.ty o.op (rrun P may rest K) l g n → ∃ l' g' n', K l' g' n' ∧ ∀ K' : RL → AMem → Nat → Prop, K' l' g' n' → rdo P may o.dst o.fl o.ty o.op (rrun P may rest K') l g n := fun h => by
      unfold rdo at h
      split at h
      · rename_i f args hc
        obtain ⟨h1, t, v, g', n', h2, h3, h4, h5⟩ := h
        obtain ⟨l', g'', n'', h6, h7⟩ := ih _ _ _ h5
        refine ⟨l', g'', n'', h6, fun K' hk => ?_⟩
        unfold rdo; simp only [hc]
        exact ⟨h1, t, v, g', n', h2, h3, h4, h7 K' hk⟩
      · rename_i hc
        have key : reff may o.dst o.fl (rrun P may rest K) l g n (aOp P o.ty (aEval (regs l)) g n o.op) → ∃ l' g' n', K l' g' n' ∧ ∀ K' : RL → AMem → Nat → Prop, K' l' g' n' → reff may o.dst o.fl (rrun P may rest K') l g n (aOp P o.ty (aEval (regs l)) g n o.op) := fun h => by
          generalize aOp P o.ty (aEval (regs l)) g n o.op = r at h ⊢
          match r with
          | none => exact h.elim
          | some (v, .none) => obtain ⟨l', g', n', h1, h2⟩ := ih _ _ _ h; exact ⟨l', g', n', h1, fun K' hk => h2 K' hk⟩
          | some (v, .new o) => obtain ⟨l', g', n', h1, h2⟩ := ih _ _ _ h.2; exact ⟨l', g', n', h1, fun K' hk => ⟨h.1, h2 K' hk⟩⟩
          | some (v, .put i o) => obtain ⟨l', g', n', h1, h2⟩ := ih _ _ _ h.2.2; exact ⟨l', g', n', h1, fun K' hk => ⟨h.1, h.2.1, h2 K' hk⟩⟩
          | some (v, .move i o) => obtain ⟨l', g', n', h1, h2⟩ := ih _ _ _ h.2.2; exact ⟨l', g', n', h1, fun K' hk => ⟨h.1, h.2.1, h2 K' hk⟩⟩
        obtain ⟨l', g', n', h1, h2⟩ := key h
        refine ⟨l', g', n', h1, fun K' hk => ?_⟩
        unfold rdo; simp only [hc]
        exact h2 K' hk
    simp only [rrun, rstep] at h ⊢
    split at h
    · exact doIt h
    · unfold rgd at h ⊢
      split at h
      · rename_i t want _ _ b hb
        by_cases e : b = want
        · obtain ⟨l', g', n', h1, h2⟩ := doIt (h.1 e)
          exact ⟨l', g', n', h1, fun K' hk => ⟨fun _ => h2 K' hk, (fun e' => by rw [e] at e'; cases want <;> cases e')⟩⟩
        · have e' : b = !want := by cases b <;> cases want <;> simp_all
          obtain ⟨l', g', n', h1, h2⟩ := ih _ _ _ (h.2 e')
          exact ⟨l', g', n', h1, fun K' hk => ⟨fun e2 => absurd e2 e, fun _ => h2 K' hk⟩⟩
      · exact ih _ _ _ h
      · exact h.elim
    · exact ih _ _ _ h
theorem drun_exact : ∀ (ops : List DOp) {K : RL → AMem → Nat → Prop} (log : DLog) (l : RL) (g : AMem) (n : Nat), drun P may ops K log l g n →
    ∃ l' g' n', K l' g' n' ∧ ∀ K' : RL → AMem → Nat → Prop, K' l' g' n' → drun P may ops K' log l g n := by
  intro ops
  induction ops with
  | nil => intro K log l g n h; exact ⟨l, g, n, h, fun K' h => h⟩
  | cons o rest ih =>
    intro K log l g n h
    have doIt : ddo P may o.dst o.i o.un o.ty o.op (drun P may rest K) log l g n → ∃ l' g' n', K l' g' n' ∧ ∀ K' : RL → AMem → Nat → Prop, K' l' g' n' → ddo P may o.dst o.i o.un o.ty o.op (drun P may rest K') log l g n := fun h => by
      unfold ddo at h
      split at h
      · rename_i f args hc
        obtain ⟨h1, F, W, v, h', n', h2, h3, h4, h5, h6, h7, h8⟩ := h
        obtain ⟨l', g'', n'', h9, h10⟩ := ih _ _ _ _ h8
        refine ⟨l', g'', n'', h9, fun K' hk => ?_⟩
        unfold ddo; simp only [hc]
        exact ⟨h1, F, W, v, h', n', h2, h3, h4, h5, h6, h7, h10 K' hk⟩
      · rename_i hc
        split at h
        · rename_i hp
          have key : reff may o.dst true (drun P may rest K log) l g n (aOp P o.ty (aEval (regs l)) g n o.op) → ∃ l' g' n', K l' g' n' ∧ ∀ K' : RL → AMem → Nat → Prop, K' l' g' n' → reff may o.dst true (drun P may rest K' log) l g n (aOp P o.ty (aEval (regs l)) g n o.op) := fun h => by
            generalize aOp P o.ty (aEval (regs l)) g n o.op = r at h ⊢
            match r with
            | none => exact h.elim
            | some (v, .none) => obtain ⟨l', g', n', h1, h2⟩ := ih _ _ _ _ h; exact ⟨l', g', n', h1, fun K' hk => h2 K' hk⟩
            | some (v, .new o) => obtain ⟨l', g', n', h1, h2⟩ := ih _ _ _ _ h.2; exact ⟨l', g', n', h1, fun K' hk => ⟨h.1, h2 K' hk⟩⟩
            | some (v, .put i o) => obtain ⟨l', g', n', h1, h2⟩ := ih _ _ _ _ h.2.2; exact ⟨l', g', n', h1, fun K' hk => ⟨h.1, h.2.1, h2 K' hk⟩⟩
            | some (v, .move i o) => obtain ⟨l', g', n', h1, h2⟩ := ih _ _ _ _ h.2.2; exact ⟨l', g', n', h1, fun K' hk => ⟨h.1, h.2.1, h2 K' hk⟩⟩
          obtain ⟨l', g', n', h1, h2⟩ := key h
          refine ⟨l', g', n', h1, fun K' hk => ?_⟩
          unfold ddo; simp only [hc, if_pos hp]
          exact h2 K' hk
        · rename_i hp
          have key : deff may o.dst o.i o.un (opFp l o.op) (drun P may rest K) log l g n (aOp P o.ty (aEval (regs l)) g n o.op) → ∃ l' g' n', K l' g' n' ∧ ∀ K' : RL → AMem → Nat → Prop, K' l' g' n' → deff may o.dst o.i o.un (opFp l o.op) (drun P may rest K') log l g n (aOp P o.ty (aEval (regs l)) g n o.op) := fun h => by
            generalize aOp P o.ty (aEval (regs l)) g n o.op = r at h ⊢
            match r with
            | none => exact h.elim
            | some (v, .none) => obtain ⟨l', g', n', h1, h2⟩ := ih _ _ _ _ h.2; exact ⟨l', g', n', h1, fun K' hk => ⟨h.1, h2 K' hk⟩⟩
            | some (v, .new o) => obtain ⟨l', g', n', h1, h2⟩ := ih _ _ _ _ h.2; exact ⟨l', g', n', h1, fun K' hk => ⟨h.1, h2 K' hk⟩⟩
            | some (v, .put i o) => obtain ⟨l', g', n', h1, h2⟩ := ih _ _ _ _ h.2.2; exact ⟨l', g', n', h1, fun K' hk => ⟨h.1, h.2.1, h2 K' hk⟩⟩
            | some (v, .move i o) => obtain ⟨l', g', n', h1, h2⟩ := ih _ _ _ _ h.2.2; exact ⟨l', g', n', h1, fun K' hk => ⟨h.1, h.2.1, h2 K' hk⟩⟩
          obtain ⟨l', g', n', h1, h2⟩ := key h
          refine ⟨l', g', n', h1, fun K' hk => ?_⟩
          unfold ddo; simp only [hc, if_neg hp]
          exact h2 K' hk
    simp only [drun, dstep] at h ⊢
    split at h
    · exact doIt h
    · unfold rgd at h ⊢
      split at h
      · rename_i t want _ _ b hb
        by_cases e : b = want
        · obtain ⟨l', g', n', h1, h2⟩ := doIt (h.1 e)
          exact ⟨l', g', n', h1, fun K' hk => ⟨fun _ => h2 K' hk, (fun e' => by rw [e] at e'; cases want <;> cases e')⟩⟩
        · have e' : b = !want := by cases b <;> cases want <;> simp_all
          obtain ⟨l', g', n', h1, h2⟩ := ih _ _ _ _ (h.2 e')
          exact ⟨l', g', n', h1, fun K' hk => ⟨fun e2 => absurd e2 e, fun _ => h2 K' hk⟩⟩
      · exact ih _ _ _ _ h
      · exact h.elim
    · exact ih _ _ _ _ h
theorem rwp_exact : ∀ (c : RCode) {Q : RPost} (l : RL) (g : AMem) (n : Nat), rwp P may c Q l g n →
    ∃ e l' g' n', Q e l' g' n' ∧ ∀ Q' : RPost, Q' e l' g' n' → rwp P may c Q' l g n := by
  intro c
  induction c with
  | skip => intro Q l g n h; exact ⟨_, l, g, n, h, fun _ h => h⟩
  | exit => intro Q l g n h; exact ⟨_, l, g, n, h, fun _ h => h⟩
  | ret => intro Q l g n h; exact ⟨_, l, g, n, h, fun _ h => h⟩
  | keep rs c ih => intro Q l g n h; exact ih _ g n h
  | region ops =>
    intro Q l g n h
    obtain ⟨l', g', n', h1, h2⟩ := rrun_exact ops l g n h
    exact ⟨.normal, l', g', n', h1, fun Q' hq => h2 (Q' .normal) hq⟩
  | regionD ops =>
    intro Q l g n h
    obtain ⟨l', g', n', h1, h2⟩ := drun_exact ops [] l g n h
    exact ⟨.normal, l', g', n', h1, fun Q' hq => h2 (Q' .normal) hq⟩
  | seq x y ihx ihy =>
    intro Q l g n h
    obtain ⟨e, l', g', n', h1, h2⟩ := ihx l g n h
    cases e with
    | normal =>
      obtain ⟨e2, l2, g2, n2, h3, h4⟩ := ihy _ _ _ h1
      exact ⟨e2, l2, g2, n2, h3, fun Q' hq => h2 _ (h4 Q' hq)⟩
    | exit i => exact ⟨.exit i, l', g', n', h1, fun Q' hq => h2 _ hq⟩
    | ret => exact ⟨.ret, l', g', n', h1, fun Q' hq => h2 _ hq⟩
    | _ => exact ⟨_, l', g', n', h1, fun Q' hq => h2 _ hq⟩
  | cond c x y ihx ihy =>
    intro Q l g n h
    simp only [rwp] at h ⊢
    unfold rcond at h ⊢
    split at h
    · rename_i b _
      cases b
      · obtain ⟨e, l', g', n', h1, h2⟩ := ihy _ _ _ (h.2 rfl)
        exact ⟨e, l', g', n', h1, fun Q' hq => ⟨(fun e => by cases e), fun _ => h2 Q' hq⟩⟩
      · obtain ⟨e, l', g', n', h1, h2⟩ := ihx _ _ _ (h.1 rfl)
        exact ⟨e, l', g', n', h1, fun Q' hq => ⟨fun _ => h2 Q' hq, (fun e => by cases e)⟩⟩
    · exact h.elim
  | block id b ih =>
    intro Q l g n h
    obtain ⟨e, l', g', n', h1, h2⟩ := ih l g n h
    cases e with
    | exit id' =>
      by_cases hi : id' = id
      · simp only [Exit.inBlockR, hi, if_true] at h1
        exact ⟨.normal, l', g', n', h1, fun Q' hq => h2 _ (by simp only [Exit.inBlockR, hi, if_true]; exact hq)⟩
      · simp only [Exit.inBlockR, hi, if_false] at h1
        exact ⟨.exit id', l', g', n', h1, fun Q' hq => h2 _ (by simp only [Exit.inBlockR, hi, if_false]; exact hq)⟩
    | _ => exact ⟨_, l', g', n', h1, fun Q' hq => h2 _ hq⟩
  | loop rs b ih =>
    intro Q l g n ⟨k, h⟩
    suffices ∃ e l' g' n', Q e l' g' n' ∧ ∀ Q' : RPost, Q' e l' g' n' → rrounds rs (rwp P may b) Q' k l g n by
      obtain ⟨e, l', g', n', h1, h2⟩ := this
      exact ⟨e, l', g', n', h1, fun Q' hq => ⟨k, h2 Q' hq⟩⟩
    induction k generalizing l g n with
    | zero => exact h.elim
    | succ k ihk =>
      obtain ⟨e, l', g', n', h1, h2⟩ := ih _ g n h
      cases e with
      | normal =>
        obtain ⟨e2, l2, g2, n2, h3, h4⟩ := ihk _ _ _ h1
        exact ⟨e2, l2, g2, n2, h3, fun Q' hq => h2 _ (h4 Q' hq)⟩
      | _ => exact ⟨_, l', g', n', h1, fun Q' hq => h2 _ hq⟩
end
/-- A contract: an end of which so much is said. -/
def FnS (P : Program) (f : FuncId) (args : List Value) (g : AMem) (n : Nat) (touch : Nat → Prop) (Post : Value → AMem → Nat → Prop) : Prop :=
  ∃ v g' n', FnC P f args g n touch v g' n' ∧ Post v g' n'
/-- An end of which so much is said. -/
def SDone (P : Program) (rs : List ResultVar) (Post : Value → AMem → Nat → Prop) : RPost := fun e l g n => (e = .normal ∨ e = .ret) ∧ ∃ v, aResults P g (regs l) rs = some v ∧ Post v g n
@[congr] theorem SDone_congr {P : Program} {rs : List ResultVar} {Post : Value → AMem → Nat → Prop} {e : Exit} {l l' : RL} {g g' : AMem} {n : Nat} (hl : l = l') (h : g = g') : SDone P rs Post e l g n = SDone P rs Post e l' g' n := by rw [h, hl]
theorem sdone_ret {P : Program} {rs : List ResultVar} {Post : Value → AMem → Nat → Prop} {l : RL} {g : AMem} {n : Nat} {v : Value} (hr : aResults P g (regs l) rs = some v) (hp : Post v g n) : SDone P rs Post .ret l g n := ⟨.inr rfl, v, hr, hp⟩
theorem sdone_normal {P : Program} {rs : List ResultVar} {Post : Value → AMem → Nat → Prop} {l : RL} {g : AMem} {n : Nat} {v : Value} (hr : aResults P g (regs l) rs = some v) (hp : Post v g n) : SDone P rs Post .normal l g n := ⟨.inl rfl, v, hr, hp⟩
theorem fnS_of_rwp {P : Program} {f : FuncId} {rc : RCode} {rs : List ResultVar} {na : Nat} (ht : FnT P f rc rs na) (hm : P.follows .mixedOrders = true) {args : List Value} (hna : args.length = na)
    {g : AMem} {n : Nat} {touch : Nat → Prop} {Post : Value → AMem → Nat → Prop} (hdom : ∀ i, g i ≠ none → i < n)
    (h : rwp P (fun i => i < n → touch i) rc (SDone P rs Post) (argL 0 args) g n) : FnS P f args g n touch Post := by
  obtain ⟨e, l', g', n', ⟨he, v, hr, hp⟩, hq⟩ := rwp_exact _ _ _ _ h
  exact ⟨v, g', n', fnC_of_rwp ht hm hna fun _ => hq _ ⟨he, v, hr, .inr ⟨rfl, rfl, rfl⟩⟩, hp⟩
theorem FnC.toS {P : Program} {f : FuncId} {args : List Value} {g : AMem} {n : Nat} {t : Nat → Prop} {v : Value} {g' : AMem} {n' : Nat} (h : FnC P f args g n t v g' n') : FnS P f args g n t (fun v1 g1 n1 => v1 = v ∧ g1 = g' ∧ n1 = n') := ⟨v, g', n', h, rfl, rfl, rfl⟩
section
variable {P : Program} {may : Nat → Prop} {l : RL} {g : AMem} {n : Nat} {K : RL → AMem → Nat → Prop} {dst : Option Tmp} {fl : Bool}
theorem rcall_spec {f : FuncId} {args : List Value} {t : Nat → Prop} {Post : Value → AMem → Nat → Prop} (h : FnS P f args g n t Post) (hf : goFn P f = true) (ht : ∀ i, t i → may i) (hfl : fl = true) (hK : ∀ v g' n', Post v g' n' → K (push dst v l) g' n') : rcall P may f args dst fl K l g n := by
  obtain ⟨v, g', n', h1, h2⟩ := h
  exact ⟨hf, t, v, g', n', h1, ht, .inl hfl, hK v g' n' h2⟩
end
/-- All that was there is as it was. -/
structure Kept (g : AMem) (n : Nat) (g' : AMem) (n' : Nat) : Prop where
  le : n ≤ n'
  same : ∀ i, i < n → g' i = g i
  dom : ∀ i, g' i ≠ none → i < n'
namespace Kept
variable {g g' g'' : AMem} {n n' n'' : Nat}
theorem refl (h : ∀ i, g i ≠ none → i < n) : Kept g n g n := ⟨Nat.le_refl _, fun _ _ => rfl, h⟩
theorem trans (h : Kept g n g' n') (h' : Kept g' n' g'' n'') : Kept g n g'' n'' := ⟨Nat.le_trans h.le h'.le, fun i hi => by rw [h'.same i (Nat.lt_of_lt_of_le hi h.le), h.same i hi], h'.dom⟩
theorem new (h : Kept g n g' n') (o : AObj) : Kept g n (gset g' n' (some o)) (n' + 1) := ⟨Nat.le_succ_of_le h.le, fun i hi => by
    have := h.le
    rw [gset, if_neg (by omega)]; exact h.same i hi, fun i hi => by
    unfold gset at hi
    split at hi
    · omega
    · exact Nat.lt_succ_of_lt (h.dom i hi)⟩
theorem put (h : Kept g n g' n') {b : Nat} (hb : n ≤ b) (hb' : b < n') (o : AObj) : Kept g n (gset g' b (some o)) n' := ⟨h.le, fun i hi => by
    rw [gset, if_neg (by omega)]; exact h.same i hi, fun i hi => by
    unfold gset at hi
    split at hi
    · omega
    · exact h.dom i hi⟩
theorem drop (h : Kept g n g' n') {b : Nat} (hb : n ≤ b) : Kept g n (gset g' b none) n' := ⟨h.le, fun i hi => by
    rw [gset, if_neg (by omega)]; exact h.same i hi, fun i hi => by
    unfold gset at hi
    split at hi
    · exact absurd rfl hi
    · exact h.dom i hi⟩
theorem has (h : Kept g n g' n') (hd : ∀ i, g i ≠ none → i < n) : ∀ i o, g i = some o → g' i = some o := same_below hd h.same
theorem lt (h : Kept g n g' n') {b : Nat} {o : AObj} (hb : g' b = some o) : b < n' := h.dom b (by rw [hb]; simp)
end Kept
end Go.Proofs.YtkcahnefekkfaaaAbs

namespace Go.Proofs.YtkcahnefekkfaaaAbs
open Go Go.RowKit
variable [Base]
theorem fpV_int (k : IntKind) (a : Int) : fpV (.int k a) = [] := rfl
theorem fpV_U (w : BitVec 64) : fpV (U w) = [] := rfl
theorem fpV_bool (b : Bool) : fpV (.bool b) = [] := rfl
theorem fpV_float (k : FloatKind) (a : Nat) : fpV (.float k a) = [] := rfl
theorem fpV_complex (k : FloatKind) (a b : Nat) : fpV (.complex k a b) = [] := rfl
theorem fpV_string (s : ByteArray) : fpV (.string s) = [] := rfl
theorem fpV_agg (a : Array Value) : fpV (.agg a) = [] := rfl
theorem fpV_tuple (a : Array Value) : fpV (.tuple a) = [] := rfl
theorem fpV_func (f : Fn) (a b : Array Value) : fpV (.func f a b) = [] := rfl
theorem fpV_map : fpV (.map none) = [] := rfl
theorem fpV_mapb (b : Nat) : fpV (.map (some b)) = [b] := rfl
theorem fpV_iface (t : TypeId) (v : Value) : fpV (.iface t v) = [] := rfl
theorem fpV_niliface : fpV .nilIface = [] := rfl
theorem fpV_ptr (b o : Nat) : fpV (.pointer (some ⟨b, o, none⟩)) = [b] := rfl
theorem fpV_slice (b o m e : Nat) : fpV (.slice (some ⟨b, o, none⟩) m e) = [b] := rfl
theorem fpV_slice0 (m e : Nat) : fpV (.slice none m e) = [] := rfl
theorem fpV_slice1 (b o s m e : Nat) : fpV (.slice (some ⟨b, o, some s⟩) m e) = [] := rfl
theorem fpV_nilptr : fpV (.pointer none) = [] := rfl
section
variable {P : Program} {may : Nat → Prop} {l : RL} {g : AMem} {n : Nat} {Q : RL → AMem → Nat → Prop} {K : DLog → RL → AMem → Nat → Prop} {log : DLog} {dst : Option Tmp} {i : Nat} {un : List Nat} {ty : TypeId}
theorem drun_nil : drun P may [] Q log l g n = Q l g n := rfl
theorem drun_cons (o : DOp) (rest : List DOp) : drun P may (o :: rest) Q log l g n = dstep P may o (drun P may rest Q) log l g n := rfl
theorem dstep_none (op : Op) : dstep P may ⟨dst, .none, ty, op, i, un⟩ K log l g n = ddo P may dst i un ty op K log l g n := rfl
theorem dstep_some (t : Tmp) (want : Bool) (op : Op) : dstep P may ⟨dst, .some t want, ty, op, i, un⟩ K log l g n = rgd (look t l) want (ddo P may dst i un ty op K log l g n) (K log (push dst undef l) g n) := rfl
theorem ddo_pure {op : Op} (hp : pureOp op = true) : ddo P may dst i un ty op K log l g n = rdo P may dst true ty op (K log) l g n := by
  unfold ddo rdo
  split
  · rename_i hc; rw [aCall_not_pure hc] at hp; cases hp
  · rw [if_pos hp]
theorem ddo_np {op : Op} (hp : pureOp op = false) (hc : aCall (regs l) op = none) : ddo P may dst i un ty op K log l g n = deff may dst i un (opFp l op) K log l g n (aOp P ty (aEval (regs l)) g n op) := by
  unfold ddo
  rw [hc]
  simp only [hp, Bool.false_eq_true, if_false]
theorem ddo_move (x : Operand) : ddo P may dst i un ty (.move x) K log l g n = rdo P may dst true ty (.move x) (K log) l g n := ddo_pure rfl
theorem ddo_assign (x : Operand) : ddo P may dst i un ty (.assign x) K log l g n = rdo P may dst true ty (.assign x) (K log) l g n := ddo_pure rfl
theorem ddo_pick (c a b : Operand) : ddo P may dst i un ty (.pick c a b) K log l g n = rdo P may dst true ty (.pick c a b) (K log) l g n := ddo_pure rfl
theorem ddo_build (t : TypeId) (ps : Array (Nat × Operand)) : ddo P may dst i un ty (.build t ps) K log l g n = rdo P may dst true ty (.build t ps) (K log) l g n := ddo_pure rfl
theorem ddo_nilCheck (x : Operand) : ddo P may dst i un ty (.nilCheck x) K log l g n = rdo P may dst true ty (.nilCheck x) (K log) l g n := ddo_pure rfl
theorem ddo_binOp (op : BinOp) (t t' : TypeId) (x y : Operand) : ddo P may dst i un ty (.binOp op t x y t') K log l g n = rdo P may dst true ty (.binOp op t x y t') (K log) l g n := ddo_pure rfl
theorem ddo_unOp (op : UnOp) (t : TypeId) (x : Operand) : ddo P may dst i un ty (.unOp op t x) K log l g n = rdo P may dst true ty (.unOp op t x) (K log) l g n := ddo_pure rfl
theorem ddo_convert (s d : TypeId) (x : Operand) : ddo P may dst i un ty (.convert s d x) K log l g n = rdo P may dst true ty (.convert s d x) (K log) l g n := ddo_pure rfl
theorem ddo_makeFunc (fn : Fn) (xs ys : Array Operand) : ddo P may dst i un ty (.makeFunc fn xs ys) K log l g n = rdo P may dst true ty (.makeFunc fn xs ys) (K log) l g n := ddo_pure rfl
theorem ddo_fieldAddr (t : TypeId) (x : Operand) (j : Nat) : ddo P may dst i un ty (.fieldAddr t x j) K log l g n = rdo P may dst true ty (.fieldAddr t x j) (K log) l g n := ddo_pure rfl
theorem ddo_field (t : TypeId) (x : Operand) (j : Nat) : ddo P may dst i un ty (.field t x j) K log l g n = rdo P may dst true ty (.field t x j) (K log) l g n := ddo_pure rfl
theorem ddo_indexAddr (t : TypeId) (x j : Operand) : ddo P may dst i un ty (.indexAddr t x j) K log l g n = rdo P may dst true ty (.indexAddr t x j) (K log) l g n := ddo_pure rfl
theorem ddo_index (t : TypeId) (x j : Operand) : ddo P may dst i un ty (.index t x j) K log l g n = rdo P may dst true ty (.index t x j) (K log) l g n := ddo_pure rfl
theorem ddo_extract (x : Operand) (j : Nat) : ddo P may dst i un ty (.extract x j) K log l g n = rdo P may dst true ty (.extract x j) (K log) l g n := ddo_pure rfl
theorem ddo_len (xs : Array Operand) (ts : Array TypeId) : ddo P may dst i un ty (.call { callee := .builtin .len, args := xs, argTypes := ts }) K log l g n = rdo P may dst true ty (.call { callee := .builtin .len, args := xs, argTypes := ts }) (K log) l g n := ddo_pure rfl
theorem ddo_max (xs : Array Operand) (ts : Array TypeId) : ddo P may dst i un ty (.call { callee := .builtin .max, args := xs, argTypes := ts }) K log l g n = rdo P may dst true ty (.call { callee := .builtin .max, args := xs, argTypes := ts }) (K log) l g n := ddo_pure rfl
theorem ddo_min (xs : Array Operand) (ts : Array TypeId) : ddo P may dst i un ty (.call { callee := .builtin .min, args := xs, argTypes := ts }) K log l g n = rdo P may dst true ty (.call { callee := .builtin .min, args := xs, argTypes := ts }) (K log) l g n := ddo_pure rfl
theorem ddo_real (xs : Array Operand) (ts : Array TypeId) : ddo P may dst i un ty (.call { callee := .builtin .real, args := xs, argTypes := ts }) K log l g n = rdo P may dst true ty (.call { callee := .builtin .real, args := xs, argTypes := ts }) (K log) l g n := ddo_pure rfl
theorem ddo_imag (xs : Array Operand) (ts : Array TypeId) : ddo P may dst i un ty (.call { callee := .builtin .imag, args := xs, argTypes := ts }) K log l g n = rdo P may dst true ty (.call { callee := .builtin .imag, args := xs, argTypes := ts }) (K log) l g n := ddo_pure rfl
theorem ddo_complex (xs : Array Operand) (ts : Array TypeId) : ddo P may dst i un ty (.call { callee := .builtin .complex, args := xs, argTypes := ts }) K log l g n = rdo P may dst true ty (.call { callee := .builtin .complex, args := xs, argTypes := ts }) (K log) l g n := ddo_pure rfl
theorem ddo_load (t : TypeId) (a : Operand) : ddo P may dst i un ty (.load t a) K log l g n = (dsep log (.bs (fpV (aEval (regs l) a))) (.bs []) un ∧ rval dst (K ((i, ⟨.bs (fpV (aEval (regs l) a)), .bs [], n, n⟩) :: log)) l g n (aLoad P g t (aEval (regs l) a))) := by
  rw [ddo_np rfl rfl]
  simp only [aOp]
  have e : opFp l (.load t a) = fpV (aEval (regs l) a) := by simp [opFp, Op.operands]
  rw [e]
  cases aLoad P g t (aEval (regs l) a) with
  | none => simp [deff, rval]
  | some v => rfl
theorem ddo_alloc (t : TypeId) : ddo P may dst i un ty (.alloc t) K log l g n = deff may dst i un [] K log l g n ((zeroFlat P t).map fun z => (.pointer (some ⟨n, 0, none⟩), .new (.row z true))) := by
  rw [ddo_np rfl rfl]; rfl
theorem ddo_box (t : TypeId) (x : Operand) : ddo P may dst i un ty (.box t x) K log l g n = (isJunk (aEval (regs l) x) = false ∧ dsep log (.bs (fpV (aEval (regs l) x))) (.bs []) un ∧ K ((i, ⟨.bs (fpV (aEval (regs l) x)), .bs [], n, n + 1⟩) :: log) (push dst (.pointer (some ⟨n, 0, none⟩)) l) (gset g n (some (.row (aEval (regs l) x).cells.toList true))) (n + 1)) := by
  rw [ddo_np rfl rfl]
  have e : opFp l (.box t x) = fpV (aEval (regs l) x) := by simp [opFp, Op.operands]
  rw [e]
  simp only [aOp]
  split
  · rename_i h; simp only [h, true_and]; rfl
  · rename_i h; simp [h, deff]
theorem ddo_store (t : TypeId) (a v : Operand) : ddo P may dst i un ty (.store t a v) K log l g n = deff may dst i un (fpV (aEval (regs l) a) ++ fpV (aEval (regs l) v)) K log l g n ((aStore P g t (aEval (regs l) v) (aEval (regs l) a)).map fun ε => (undef, ε)) := by
  rw [ddo_np rfl rfl]
  have e : opFp l (.store t a v) = fpV (aEval (regs l) a) ++ fpV (aEval (regs l) v) := by simp [opFp, Op.operands]
  rw [e]; rfl
theorem ddo_buildSlice (t : TypeId) (len : Nat) (parts : Array (Nat × Operand)) : ddo P may dst i un ty (.buildSlice t len parts) K log l g n = deff may dst i un (parts.toList.flatMap fun p => fpV (aEval (regs l) p.2)) K log l g n (aOp P ty (aEval (regs l)) g n (.buildSlice t len parts)) := by
  rw [ddo_np rfl rfl]
  have e : opFp l (.buildSlice t len parts) = parts.toList.flatMap fun p => fpV (aEval (regs l) p.2) := by simp [opFp, Op.operands, List.flatMap_map]
  rw [e]
theorem ddo_makeSlice (t : TypeId) (x c : Operand) : ddo P may dst i un ty (.makeSlice t x c) K log l g n = deff may dst i un (fpV (aEval (regs l) x) ++ fpV (aEval (regs l) c)) K log l g n (aMake P n t (aEval (regs l) x) (aEval (regs l) c)) := by
  rw [ddo_np rfl rfl]
  have e : opFp l (.makeSlice t x c) = fpV (aEval (regs l) x) ++ fpV (aEval (regs l) c) := by simp [opFp, Op.operands]
  rw [e]; rfl
def fpO' (l : RL) : Option Operand → List Nat
  | none => []
  | some x => fpV (aEval (regs l) x)
theorem fpO'_none : fpO' l none = [] := rfl
theorem fpO'_some (x : Operand) : fpO' l (some x) = fpV (aEval (regs l) x) := rfl
theorem ddo_slice (t : TypeId) (x : Operand) (lo hi mx : Option Operand) : ddo P may dst i un ty (.slice t x lo hi mx) K log l g n = deff may dst i un (fpV (aEval (regs l) x) ++ (fpO' l lo ++ (fpO' l hi ++ fpO' l mx))) K log l g n (aOp P ty (aEval (regs l)) g n (.slice t x lo hi mx)) := by
  rw [ddo_np rfl rfl]
  have e : opFp l (.slice t x lo hi mx) = fpV (aEval (regs l) x) ++ (fpO' l lo ++ (fpO' l hi ++ fpO' l mx)) := by
    cases lo <;> cases hi <;> cases mx <;> simp [opFp, Op.operands, fpO']
  rw [e]
theorem ddo_append (s x : Operand) (t : TypeId) : ddo P may dst i un ty (.call { callee := .builtin .append, args := #[s, x], argTypes := #[t, t] }) K log l g n = deff may dst i un (fpV (aEval (regs l) s) ++ fpV (aEval (regs l) x)) K log l g n (aAppend P g n t (aEval (regs l) s) (aEval (regs l) x)) := by
  rw [ddo_np rfl rfl]
  have e : opFp l (.call { callee := .builtin .append, args := #[s, x], argTypes := #[t, t] }) = fpV (aEval (regs l) s) ++ fpV (aEval (regs l) x) := by simp [opFp, Op.operands, Call.operands]
  rw [e]
  simp only [aOp, aBuiltin, if_true]
theorem ddo_copy (d s : Operand) (t t' : TypeId) : ddo P may dst i un ty (.call { callee := .builtin .copy, args := #[d, s], argTypes := #[t, t'] }) K log l g n = deff may dst i un (fpV (aEval (regs l) d) ++ fpV (aEval (regs l) s)) K log l g n (aCopy P g t (aEval (regs l) d) (aEval (regs l) s)) := by
  rw [ddo_np rfl rfl]
  have e : opFp l (.call { callee := .builtin .copy, args := #[d, s], argTypes := #[t, t'] }) = fpV (aEval (regs l) d) ++ fpV (aEval (regs l) s) := by simp [opFp, Op.operands, Call.operands]
  rw [e]; rfl
theorem ddo_call (f : FuncId) (args : Array Operand) (ts : Array TypeId) : ddo P may dst i un ty (.call { callee := .value (.func f), args := args, argTypes := ts }) K log l g n = dcall P may f (args.toList.map (aEval (regs l))) dst i un K log l g n := by
  simp [ddo, aCall, aEval]
theorem deff_none {fp : List Nat} (v : Value) : deff may dst i un fp K log l g n (some (v, .none)) = (dsep log (.bs fp) (.bs []) un ∧ K ((i, ⟨.bs fp, .bs [], n, n⟩) :: log) (push dst v l) g n) := rfl
theorem deff_new {fp : List Nat} (v : Value) (o : AObj) : deff may dst i un fp K log l g n (some (v, .new o)) = (dsep log (.bs fp) (.bs []) un ∧ K ((i, ⟨.bs fp, .bs [], n, n + 1⟩) :: log) (push dst v l) (gset g n (some o)) (n + 1)) := rfl
theorem deff_put {fp : List Nat} (v : Value) (b : Nat) (o : AObj) : deff may dst i un fp K log l g n (some (v, .put b o)) = (may b ∧ dsep log (.bs fp) (.bs [b]) un ∧ K ((i, ⟨.bs fp, .bs [b], n, n⟩) :: log) (push dst v l) (gset g b (some o)) n) := rfl
theorem deff_move {fp : List Nat} (v : Value) (b : Nat) (o : AObj) : deff may dst i un fp K log l g n (some (v, .move b o)) = (may b ∧ dsep log (.bs fp) (.bs [b]) un ∧ K ((i, ⟨.bs fp, .bs [b], n, n + 1⟩) :: log) (push dst v l) (gset (gset g b none) n (some o)) (n + 1)) := rfl
theorem dsep_idle' (log : DLog) (un : List Nat) : dsep log (.bs []) (.bs []) un = True := by simp [dsep_idle]
/-- Calls of functions that are values. -/
def rcallv (P : Program) (may : Nat → Prop) (v : Value) (args : List Value) (dst : Option Tmp) (fl : Bool) (K : RL → AMem → Nat → Prop) (l : RL) (g : AMem) (n : Nat) : Prop := match v with
  | .func (.func k) xs ys => rcall P may k (xs.toList ++ args ++ ys.toList) dst fl K l g n
  | _ => False
theorem rcallv_func (k : FuncId) (xs ys : Array Value) (args : List Value) {fl : Bool} {K : RL → AMem → Nat → Prop} : rcallv P may (.func (.func k) xs ys) args dst fl K l g n = rcall P may k (xs.toList ++ args ++ ys.toList) dst fl K l g n := rfl
theorem rdo_callv (t : Tmp) (args : Array Operand) (ts : Array TypeId) {fl : Bool} {K : RL → AMem → Nat → Prop} : rdo P may dst fl ty (.call { callee := .value (.tmp t), args := args, argTypes := ts }) K l g n = rcallv P may (look t l) (args.toList.map (aEval (regs l))) dst fl K l g n := by
  unfold rdo
  have e : regs l t = look t l := rfl
  simp only [aCall, aEval, rcallv, e]
  cases look t l with
  | func f xs ys => cases f <;> simp [aOp, reff]
  | _ => simp [aOp, reff]
def dcallv (P : Program) (may : Nat → Prop) (v : Value) (args : List Value) (dst : Option Tmp) (i : Nat) (un : List Nat) (K : DLog → RL → AMem → Nat → Prop) (log : DLog) (l : RL) (g : AMem) (n : Nat) : Prop := match v with
  | .func (.func k) xs ys => dcall P may k (xs.toList ++ args ++ ys.toList) dst i un K log l g n
  | _ => False
theorem dcallv_func (k : FuncId) (xs ys : Array Value) (args : List Value) : dcallv P may (.func (.func k) xs ys) args dst i un K log l g n = dcall P may k (xs.toList ++ args ++ ys.toList) dst i un K log l g n := rfl
theorem ddo_callv (t : Tmp) (args : Array Operand) (ts : Array TypeId) : ddo P may dst i un ty (.call { callee := .value (.tmp t), args := args, argTypes := ts }) K log l g n = dcallv P may (look t l) (args.toList.map (aEval (regs l))) dst i un K log l g n := by
  unfold ddo
  have e : regs l t = look t l := rfl
  simp only [aCall, aEval, dcallv, e]
  cases look t l with
  | func f xs ys => cases f <;> simp [aOp, deff, pureOp]
  | _ => simp [aOp, deff, pureOp]

/-! ### Calls -/
theorem res_full (hd : ∀ i, g i ≠ none → i < n) : res (Fp.rng 0 n).mem g = g := by
  funext x
  by_cases h : x < n
  · exact res_in ⟨Nat.zero_le _, h⟩
  · rw [res_out (fun hm => h hm.2)]
    cases hg : g x with
    | none => rfl
    | some o => exact absurd (hd x (by rw [hg]; simp)) h
theorem res_none : res (Fp.bs []).mem g = fun _ => none := by
  funext x; exact res_out (by simp [Fp.mem])
theorem res_dom {F : Fp} (hF : ∀ x, F.mem x → x < n) : ∀ i, res F.mem g i ≠ none → i < n := fun i hi => by
  apply Classical.byContradiction; intro hn
  exact hi (res_out fun hm => hn (hF i hm))
theorem res_ext {F : Nat → Prop} : ∀ i o, res F g i = some o → g i = some o := fun i o h => (res_some h).2
/-- The heap behind a call that saw a part of it, and wrote nothing that was there. -/
theorem laid_kept {F : Fp} {h' : AMem} {n' : Nat} (hd : ∀ i, g i ≠ none → i < n) (hk : Kept (res F.mem g) n h' n') : Kept g n (laid g h' (Fp.bs []).mem n) n' ∧ (∀ x o, h' x = some o → laid g h' (Fp.bs []).mem n x = some o) ∧ ∀ x, n ≤ x → laid g h' (Fp.bs []).mem n x = h' x := by
  have hin : ∀ x, n ≤ x → laid g h' (Fp.bs []).mem n x = h' x := fun x hx => laid_in (.inr hx)
  have hout : ∀ x, x < n → laid g h' (Fp.bs []).mem n x = g x := fun x hx => laid_out (by simp [Fp.mem]; omega)
  refine ⟨⟨hk.le, hout, fun i hi => ?_⟩, fun x o hx => ?_, hin⟩
  · by_cases h : n ≤ i
    · rw [hin i h] at hi; exact hk.dom i hi
    · have := hk.le; omega
  · by_cases h : n ≤ x
    · rw [hin x h]; exact hx
    · rw [hout x (by omega)]
      rw [hk.same x (by omega)] at hx
      exact (res_some hx).2
theorem laid_same {F : Fp} (hd : ∀ i, g i ≠ none → i < n) : laid g (res F.mem g) (Fp.bs []).mem n = g := by
  funext x
  by_cases h : n ≤ x
  · rw [laid_in (.inr h)]
    have : g x = none := by
      cases hg : g x with
      | none => rfl
      | some o => have := hd x (by rw [hg]; simp); omega
    rw [this]
    cases hr : res F.mem g x with
    | none => rfl
    | some o => rw [(res_some hr).2] at this; cases this
  · exact laid_out (by simp [Fp.mem]; omega)
theorem laid_full {h' : AMem} {n' : Nat} (hk : Kept g n h' n') : laid g h' (Fp.bs []).mem n = h' := by
  funext x
  by_cases h : n ≤ x
  · exact laid_in (.inr h)
  · rw [laid_out (by simp [Fp.mem]; omega), hk.same x (by omega)]
theorem Kept.none_from {h' : AMem} {n' : Nat} {g : AMem} (hk : Kept g n h' n') : ∀ x, n' ≤ x → h' x = none := fun x hx => by
  cases hg : h' x with
  | none => rfl
  | some o => have := hk.dom x (by rw [hg]; simp); omega
theorem bs_nil_mem : (Fp.bs []).mem = fun _ => False := by funext x; simp [Fp.mem]
/-- A call that leaves the heap as it is; it sees the part F. -/
theorem dcall_quietF {f : FuncId} {args : List Value} {v : Value} (F : Fp) (hd : ∀ i, g i ≠ none → i < n) (hF : ∀ x, F.mem x → x < n) (hf : goFn P f = true) (h : FnC P f args (res F.mem g) n (fun _ => False) v (res F.mem g) n) (hsep : dsep log F (.bs []) un) (hK : K ((i, ⟨F, .bs [], n, n⟩) :: log) (push dst v l) g n) : dcall P may f args dst i un K log l g n := by
  refine ⟨hf, F, .bs [], v, res F.mem g, n, by rw [bs_nil_mem]; exact h, fun x hx => by simp [Fp.mem] at hx, hF, Nat.le_refl _, fun x hx => res_out fun hm => by have := hF x hm; omega, hsep, ?_⟩
  rw [laid_same hd]; exact hK
theorem dcall_quiet0 {f : FuncId} {args : List Value} {v : Value} (hd : ∀ i, g i ≠ none → i < n) (hf : goFn P f = true) (h : FnC P f args (fun _ => none) n (fun _ => False) v (fun _ => none) n) (hK : K ((i, ⟨.bs [], .bs [], n, n⟩) :: log) (push dst v l) g n) : dcall P may f args dst i un K log l g n :=
  dcall_quietF (.bs []) hd (fun x hx => by simp [Fp.mem] at hx) hf (by rw [res_none]; exact h) (dsep_idle log un) hK
theorem dcall_quiet {f : FuncId} {args : List Value} {v : Value} (hd : ∀ i, g i ≠ none → i < n) (hf : goFn P f = true) (h : FnC P f args g n (fun _ => False) v g n) (hsep : dsep log (.rng 0 n) (.bs []) un) (hK : K ((i, ⟨.rng 0 n, .bs [], n, n⟩) :: log) (push dst v l) g n) : dcall P may f args dst i un K log l g n :=
  dcall_quietF (.rng 0 n) hd (fun x hx => hx.2) hf (by rw [res_full hd]; exact h) hsep hK
/-- A call that makes blocks; it sees the part F. -/
theorem dcall_specF {f : FuncId} {args : List Value} {Post : Value → AMem → Nat → Prop} (F : Fp) (hd : ∀ i, g i ≠ none → i < n) (hF : ∀ x, F.mem x → x < n) (h : FnS P f args (res F.mem g) n (fun _ => False) Post) (hk : ∀ v h' n', Post v h' n' → Kept (res F.mem g) n h' n') (hf : goFn P f = true) (hsep : dsep log F (.bs []) un)
    (hK : ∀ v h' n' g', Post v h' n' → Kept g n g' n' → (∀ x o, h' x = some o → g' x = some o) → (∀ x, n ≤ x → g' x = h' x) → K ((i, ⟨F, .bs [], n, n'⟩) :: log) (push dst v l) g' n') : dcall P may f args dst i un K log l g n := by
  obtain ⟨v, h', n', h1, h2⟩ := h
  have hk := hk v h' n' h2
  obtain ⟨k1, k2, k3⟩ := laid_kept hd hk
  exact ⟨hf, F, .bs [], v, h', n', by rw [bs_nil_mem]; exact h1, fun x hx => by simp [Fp.mem] at hx, hF, hk.le, hk.none_from, hsep, hK v h' n' _ h2 k1 k2 k3⟩
theorem dcall_spec0 {f : FuncId} {args : List Value} {Post : Value → AMem → Nat → Prop} (hd : ∀ i, g i ≠ none → i < n) (h : FnS P f args (fun _ => none) n (fun _ => False) Post) (hk : ∀ v h' n', Post v h' n' → Kept (fun _ => none) n h' n') (hf : goFn P f = true)
    (hK : ∀ v h' n' g', Post v h' n' → Kept g n g' n' → (∀ x o, h' x = some o → g' x = some o) → (∀ x, n ≤ x → g' x = h' x) → K ((i, ⟨.bs [], .bs [], n, n'⟩) :: log) (push dst v l) g' n') : dcall P may f args dst i un K log l g n :=
  dcall_specF (.bs []) hd (fun x hx => by simp [Fp.mem] at hx) (by rw [res_none]; exact h) (by rw [res_none]; exact hk) hf (dsep_idle log un) hK
theorem dcall_spec {f : FuncId} {args : List Value} {Post : Value → AMem → Nat → Prop} (hd : ∀ i, g i ≠ none → i < n) (h : FnS P f args g n (fun _ => False) Post) (hk : ∀ v h' n', Post v h' n' → Kept g n h' n') (hf : goFn P f = true) (hsep : dsep log (.rng 0 n) (.bs []) un)
    (hK : ∀ v g' n', Post v g' n' → K ((i, ⟨.rng 0 n, .bs [], n, n'⟩) :: log) (push dst v l) g' n') : dcall P may f args dst i un K log l g n := by
  obtain ⟨v, h', n', h1, h2⟩ := h
  have hk := hk v h' n' h2
  refine ⟨hf, .rng 0 n, .bs [], v, h', n', by rw [bs_nil_mem, res_full hd]; exact h1, fun x hx => by simp [Fp.mem] at hx, fun x hx => hx.2, hk.le, hk.none_from, hsep, ?_⟩
  rw [laid_full hk]; exact hK v h' n' h2
@[congr] theorem deff_congr {fp fp' : List Nat} {v v' : Option (Value × Eff)} (hf : fp = fp') (h : v = v') : deff may dst i un fp K log l g n v = deff may dst i un fp' K log l g n v' := by rw [hf, h]
@[congr] theorem dcall_congr {f : FuncId} {args args' : List Value} {log' : DLog} {g' : AMem} (h : args = args') (hl : log = log') (hg : g = g') : dcall P may f args dst i un K log l g n = dcall P may f args' dst i un K log' l g' n := by rw [h, hl, hg]
end
theorem rulesD :
  (∀ {P : Program} {may : Nat → Prop} {Q : RPost} {l : RL} {g : AMem} {n : Nat} (ops : List DOp), rwp P may (.regionD ops) Q l g n = drun P may ops (Q .normal) [] l g n) := @rwp_regionD _
end Go.Proofs.YtkcahnefekkfaaaAbs

namespace Go.Proofs.YtkcahnefekkfaaaAbs
open Go Go.RowKit
variable [Base]
section
variable {P : Program}
theorem done_q {rs : List ResultVar} {g0 : AMem} {n0 : Nat} {v : Value} {g1 : AMem} {n1 : Nat} {l : RL} (hd : ∀ i, g0 i ≠ none → i < n0) (hk : Kept g0 n0 g1 n1) (hv : flatR v = true) (hr : aResults P g1 (regs l) rs = some v) : RDone P rs n0 g0 v g0 n0 .ret l g1 n1 :=
  done_pure (P := P) (rs := rs) (n1 := n1) hd hr (flatR_ren hv) hk.same
theorem done_n {rs : List ResultVar} {g0 : AMem} {n0 : Nat} {v : Value} {g1 : AMem} {n1 : Nat} {l : RL} (hd : ∀ i, g0 i ≠ none → i < n0) (hk : Kept g0 n0 g1 n1) (hv : flatR v = true) (hr : aResults P g1 (regs l) rs = some v) : RDone P rs n0 g0 v g0 n0 .normal l g1 n1 :=
  ⟨.inl rfl, (done_q (P := P) (rs := rs) (n1 := n1) hd hk hv hr).2⟩
end
theorem flatR_U (w : BitVec 64) : flatR (U w) = true := rfl
end Go.Proofs.YtkcahnefekkfaaaAbs

namespace Go.Proofs.YtkcahnefekkfaaaAbs
open Go Go.RowKit
variable [Base]
/-- A heap that has all that another one has. -/
def Ext (g g' : AMem) : Prop := ∀ i o, g i = some o → g' i = some o
theorem Ext.refl (g : AMem) : Ext g g := fun _ _ h => h
theorem Ext.trans {g g' g'' : AMem} (h : Ext g g') (h' : Ext g' g'') : Ext g g'' := fun i o hi => h' i o (h i o hi)
theorem Kept.ext {g g' : AMem} {n n' : Nat} (h : Kept g n g' n') (hd : ∀ i, g i ≠ none → i < n) : Ext g g' := h.has hd
section
variable {α : Type} {g : AMem} {v : Value} {xs : List α}
theorem Rd.ext {e : Nat} {enc : α → List Value} {g' : AMem} (h : Rd g e enc v xs) (hx : Ext g g') : Rd g' e enc v xs := h.mono hx
/-- An element of one cell. -/
theorem Rd.one {f : α → Value} (h : Rd g 1 (fun x => [f x]) v xs) {i : Nat} (hi : i < xs.length) :
    ∃ b o, v = .slice (some ⟨b, o, none⟩) xs.length 1 ∧ g b ≠ none ∧ ∀ (g2 : AMem), Ext g g2 → ∀ (P : Program) (t : TypeId), tagg P t = some false → aLoad P g2 t (.pointer (some ⟨b, o + i, none⟩)) = some (f xs[i]) := by
  obtain ⟨b, o, cs, rw_, h1, h2, h3, h4, h5⟩ := h.elem (fun _ => rfl) hi
  refine ⟨b, o, h1, by rw [h2]; simp, fun g2 hx P t ht => load_elem1 (hx _ _ h2) ht ?_⟩
  have := h5 0 (by omega)
  rw [show o + i * 1 + 0 = o + i by omega] at this
  rw [this]; rfl
/-- An element of more cells, as a whole. -/
theorem Rd.many {e : Nat} {enc : α → List Value} (he : ∀ x, (enc x).length = e) (h : Rd g e enc v xs) {i : Nat} (hi : i < xs.length) :
    ∃ b o, v = .slice (some ⟨b, o, none⟩) xs.length e ∧ g b ≠ none ∧ (∀ (g2 : AMem), Ext g g2 → ∀ (P : Program) (t : TypeId), tagg P t = some true → tsize P t = some e → aLoad P g2 t (.pointer (some ⟨b, o + i * e, none⟩)) = some (.agg (enc xs[i]).toArray)) ∧
      ∀ (g2 : AMem), Ext g g2 → ∀ (P : Program) (t : TypeId) (j : Nat) (w : Value), j < e → nth (enc xs[i]) j = some w → tagg P t = some false → aLoad P g2 t (.pointer (some ⟨b, o + i * e + j, none⟩)) = some w := by
  obtain ⟨b, o, cs, rw_, h1, h2, h3, h4, h5⟩ := h.elem he hi
  exact ⟨b, o, h1, by rw [h2]; simp, fun g2 hx P t ha hs => load_elem (hx _ _ h2) ha hs h3 h4, fun g2 hx P t j w hj hw ha => load_elem1 (hx _ _ h2) ha (by rw [h5 j hj, hw])⟩
end
/-- A row of one-cell elements, read. -/
theorem Rd.of_row {α : Type} {g : AMem} {e : Nat} {enc : α → List Value} (he : ∀ x, (enc x).length = e) {b o : Nat} {cs : List Value} {rw_ : Bool} {xs : List α} (hg : g b = some (.row cs rw_)) (hl : o + xs.length * e ≤ cs.length) (hc : (cs.drop o).take (xs.length * e) = xs.flatMap enc) {m : Nat} (hm : m = xs.length) : Rd g e enc (.slice (some ⟨b, o, none⟩) m e) xs := by
  subst hm
  unfold Rd aRead
  by_cases h0 : xs.length = 0
  · have : xs = [] := List.length_eq_zero_iff.1 h0
    subst this; simp
  · split
    · rename_i heq; cases heq
    · rename_i a m e' _ heq
      cases heq
      rw [if_neg h0]
      simp [hg, hl, hc]
    · rename_i h1 h2; exact absurd rfl (h2 _ _ _)
theorem Rd.nil {α : Type} {g : AMem} {e : Nat} {enc : α → List Value} : Rd g e enc (.slice none 0 0) ([] : List α) := by simp [Rd, aRead]
theorem flatMap_one {α : Type} (f : α → Value) (xs : List α) : xs.flatMap (fun x => [f x]) = xs.map f := by
  induction xs with
  | nil => rfl
  | cons x xs ih => simp [ih]
end Go.Proofs.YtkcahnefekkfaaaAbs

namespace Go.Proofs.YtkcahnefekkfaaaAbs
open Go Go.RowKit
variable [Base]
def readR (o : Option AObj) (off m e : Nat) : Option (Nat × List Value) := match o with
  | some (.row cs _) => if off + m * e ≤ cs.length then some (m, (cs.drop off).take (m * e)) else none
  | _ => none
theorem aRead_nil (g : AMem) (e : Nat) : aRead g e (.slice none 0 0) = some (0, []) := rfl
theorem aRead_at (g : AMem) (b o m e : Nat) : aRead g e (.slice (some ⟨b, o, none⟩) m e) = if m = 0 then some (0, []) else readR (g b) o m e := by
  simp only [aRead, and_self, if_true]; rfl
theorem readR_row (cs : List Value) (rw_ : Bool) (off m e : Nat) : readR (some (.row cs rw_)) off m e = if off + m * e ≤ cs.length then some (m, (cs.drop off).take (m * e)) else none := rfl
def appR (g : AMem) (n e by_ : Nat) (s : Value) (r : Option (Nat × List Value)) : Option (Value × Eff) := match r with
  | some (m, xs) => if m = 0 then match s with
      | .slice _ _ _ => some (s, .none)
      | _ => none
    else if xs.all cellOk = true then match s with
      | .slice none 0 0 => if m * by_ ≤ 70368744177664 ∧ m ≤ 70368744177664 then some (.slice (some ⟨n, 0, none⟩) m (e + 1), .new (.row xs true)) else none
      | .slice (some ⟨b, 0, none⟩) k e' => if e' = e + 1 ∧ (k + m) * by_ ≤ 70368744177664 ∧ k + m ≤ 70368744177664 then match g b with
          | some (.row cs true) => if cs.length = k * (e + 1) then some (.slice (some ⟨n, 0, none⟩) (k + m) (e + 1), .move b (.row (cs ++ xs) true)) else none
          | _ => none
        else none
      | .slice (some ⟨_, _, some 1⟩) 0 _ => if m * by_ ≤ 70368744177664 ∧ m ≤ 70368744177664 then some (.slice (some ⟨n, 0, none⟩) m (e + 1), .new (.row xs true)) else none
      | _ => none
    else none
  | none => none
theorem aAppend_eq {P : Program} {g : AMem} {n : Nat} {t el e by_ : Nat} {z : Value} (hu : P.underlying t = some (.slice el)) (hs : tsize P el = some (e + 1)) (hb : tbytes P el = some by_) (hz : tzero P el = some z) (hzs : z.cells.size = e + 1) (s x : Value) : aAppend P g n t s x = appR g n e by_ s (aRead g (e + 1) x) := by
  unfold aAppend appR
  rw [hu]
  simp only [hs, hb, hz, hzs, if_true]
  cases aRead g (e + 1) x <;> rfl
def grow (o : Option AObj) (b n k m e : Nat) (xs : List Value) : Option (Value × Eff) := match o with
  | some (.row cs true) => if cs.length = k * e then some (.slice (some ⟨n, 0, none⟩) (k + m) e, .move b (.row (cs ++ xs) true)) else none
  | _ => none
theorem appR_zero (g : AMem) (n e by_ : Nat) (a : Option Addr) (k c : Nat) (xs : List Value) : appR g n e by_ (.slice a k c) (some (0, xs)) = some (.slice a k c, .none) := rfl
theorem appR_nil (g : AMem) (n e by_ m : Nat) (xs : List Value) : appR g n e by_ (.slice none 0 0) (some (m, xs)) = if m = 0 then some (.slice none 0 0, .none) else if xs.all cellOk = true then (if m * by_ ≤ 70368744177664 ∧ m ≤ 70368744177664 then some (.slice (some ⟨n, 0, none⟩) m (e + 1), .new (.row xs true)) else none) else none := rfl
theorem appR_row (g : AMem) (n e by_ m b k : Nat) (xs : List Value) : appR g n e by_ (.slice (some ⟨b, 0, none⟩) k (e + 1)) (some (m, xs)) = if m = 0 then some (.slice (some ⟨b, 0, none⟩) k (e + 1), .none) else if xs.all cellOk = true then (if (k + m) * by_ ≤ 70368744177664 ∧ k + m ≤ 70368744177664 then grow (g b) b n k m (e + 1) xs else none) else none := by
  have : appR g n e by_ (.slice (some ⟨b, 0, none⟩) k (e + 1)) (some (m, xs)) = if m = 0 then some (.slice (some ⟨b, 0, none⟩) k (e + 1), .none) else if xs.all cellOk = true then (if e + 1 = e + 1 ∧ (k + m) * by_ ≤ 70368744177664 ∧ k + m ≤ 70368744177664 then grow (g b) b n k m (e + 1) xs else none) else none := by
    cases k <;> rfl
  rw [this]; simp only [true_and]
theorem grow_row (b n k m e : Nat) (cs xs : List Value) : grow (some (.row cs true)) b n k m e xs = if cs.length = k * e then some (.slice (some ⟨n, 0, none⟩) (k + m) e, .move b (.row (cs ++ xs) true)) else none := rfl
/-- Appending one-cell elements. -/
theorem aAppend1 {P : Program} {g : AMem} {n : Nat} {t el by_ : Nat} {z : Value} (hu : P.underlying t = some (.slice el)) (hs : tsize P el = some 1) (hb : tbytes P el = some by_) (hz : tzero P el = some z) (hzs : z.cells.size = 1) (s x : Value) : aAppend P g n t s x = appR g n 0 by_ s (aRead g 1 x) := aAppend_eq (e := 0) hu hs hb hz hzs s x
theorem appR1_row (g : AMem) (n by_ m b k : Nat) (xs : List Value) : appR g n 0 by_ (.slice (some ⟨b, 0, none⟩) k 1) (some (m, xs)) = if m = 0 then some (.slice (some ⟨b, 0, none⟩) k 1, .none) else if xs.all cellOk = true then (if (k + m) * by_ ≤ 70368744177664 ∧ k + m ≤ 70368744177664 then grow (g b) b n k m 1 xs else none) else none := appR_row g n 0 by_ m b k xs
theorem aMake_eq {P : Program} {n : Nat} {t el e by_ : Nat} {z : Value} (hu : P.underlying t = some (.slice el)) (hs : tsize P el = some e) (hb : tbytes P el = some by_) (hz : tzero P el = some z) (hzf : z.cells.toList.all flatV = true) (hzs : z.cells.size = e) {k k' : IntKind} (l c : Int) :
    aMake P n t (.int k l) (.int k' c) = if 0 ≤ l ∧ l ≤ c ∧ c ≤ 70368744177664 ∧ by_ * c.toNat ≤ 70368744177664 then some (.slice (some ⟨n, 0, none⟩) l.toNat e, .new (.row (zeroRow z.cells.toList l.toNat) true)) else none := by
  unfold aMake
  simp only [hu, hs, hb, hz, hzf, hzs, and_true]
theorem zeroRow_zero (z : List Value) : zeroRow z 0 = [] := by simp [zeroRow]
theorem zeroRow_one (v : Value) (n : Nat) : zeroRow [v] n = List.replicate n v := by
  induction n with
  | zero => rfl
  | succ n ih => rw [zeroRow_succ, ih]; rfl
end Go.Proofs.YtkcahnefekkfaaaAbs

namespace Go.Proofs.YtkcahnefekkfaaaAbs
open Go Go.RowKit
variable [Base]
def fillS (s : Nat) (cells : List Value) (parts : List (Nat × Value)) : Option (List Value) := aFill (fun i => some (i * s, s)) cells parts
theorem fillS_nil (s : Nat) (cells : List Value) : fillS s cells [] = some cells := rfl
theorem fillS_cons (s : Nat) (cells : List Value) (i : Nat) (v : Value) (rest : List (Nat × Value)) : fillS s cells ((i, v) :: rest) = if v.cells.toList.length = s ∧ i * s + s ≤ cells.length ∧ isJunk v = false then fillS s (splice cells (i * s) v.cells.toList) rest else none := rfl
def nthP : List (Nat × Nat) → Nat → Option (Nat × Nat)
  | [], _ => none
  | x :: xs, i => if i = 0 then some x else nthP xs (i - 1)
theorem nthP_eq : ∀ (xs : List (Nat × Nat)) (i : Nat), xs[i]? = nthP xs i
  | [], i => by simp [nthP]
  | x :: xs, 0 => by simp [nthP]
  | x :: xs, i + 1 => by simp [nthP, nthP_eq xs i]
theorem nthP_cons (x : Nat × Nat) (xs : List (Nat × Nat)) (i : Nat) : nthP (x :: xs) i = if i = 0 then some x else nthP xs (i - 1) := rfl
def fillP (pl : List (Nat × Nat)) (cells : List Value) (parts : List (Nat × Value)) : Option (List Value) := aFill (nthP pl) cells parts
def fillO (o : Option (Nat × Nat)) (pl : List (Nat × Nat)) (cells : List Value) (v : Value) (rest : List (Nat × Value)) : Option (List Value) := match o with
  | none => none
  | some (off, size) => if v.cells.toList.length = size ∧ off + size ≤ cells.length ∧ isJunk v = false then fillP pl (splice cells off v.cells.toList) rest else none
theorem fillP_nil (pl : List (Nat × Nat)) (cells : List Value) : fillP pl cells [] = some cells := rfl
theorem fillP_cons (pl : List (Nat × Nat)) (cells : List Value) (i : Nat) (v : Value) (rest : List (Nat × Value)) : fillP pl cells ((i, v) :: rest) = fillO (nthP pl i) pl cells v rest := rfl
theorem fillO_some (off size : Nat) (pl : List (Nat × Nat)) (cells : List Value) (v : Value) (rest : List (Nat × Value)) : fillO (some (off, size)) pl cells v rest = if v.cells.toList.length = size ∧ off + size ≤ cells.length ∧ isJunk v = false then fillP pl (splice cells off v.cells.toList) rest else none := rfl
section
variable {P : Program} {may : Nat → Prop} {l : RL} {g : AMem} {n : Nat} {K : RL → AMem → Nat → Prop} {dst : Option Tmp} {fl : Bool} {ty : TypeId}
theorem do_buildS {t : TypeId} {parts : Array (Nat × Operand)} {z : List Value} {pl : List (Nat × Nat)} (hz : zeroFlat P t = some z) (hp : tplaces P t = some pl) :
    rdo P may dst fl ty (.build t parts) K l g n = rval dst K l g n ((fillP pl z (parts.toList.map fun p => (p.1, aEval (regs l) p.2))).map fun cs => .agg cs.toArray) := by
  rw [rdo_buildS hz hp]; unfold fillP; rw [show (fun i => pl[i]?) = nthP pl from funext (nthP_eq pl)]
theorem do_buildA {t : TypeId} {parts : Array (Nat × Operand)} {z : List Value} {m el s : Nat} (hz : zeroFlat P t = some z) (hu : P.underlying t = some (.array m el)) (hs : tsize P el = some s) :
    rdo P may dst fl ty (.build t parts) K l g n = rval dst K l g n ((fillS s z (parts.toList.map fun p => (p.1, aEval (regs l) p.2))).map fun cs => .agg cs.toArray) := rdo_buildA hz hu hs
theorem do_buildL {t : TypeId} {len : Nat} {parts : Array (Nat × Operand)} {z : List Value} {el s : Nat} (hu : P.underlying t = some (.slice el)) (hz : zeroFlat P el = some z) (hs : tsize P el = some s) (hl : z.length = s) (hb : len * s ≤ 16777216) :
    rdo P may dst fl ty (.buildSlice t len parts) K l g n = reff may dst fl K l g n ((fillS s (zeroRow z len) (parts.toList.map fun p => (p.1, aEval (regs l) p.2))).map fun cs => (.slice (some ⟨n, 0, none⟩) len s, .new (.row cs true))) := rdo_buildSliceA hu hz hs hl hb
end
theorem zeroRow_lit (z : List Value) (n : Nat) (h : n ≠ 0) : zeroRow z n = z ++ zeroRow z (n - 1) := by
  obtain ⟨k, rfl⟩ : ∃ k, n = k + 1 := ⟨n - 1, by omega⟩
  exact zeroRow_succ z k
end Go.Proofs.YtkcahnefekkfaaaAbs

namespace Go.Proofs.YtkcahnefekkfaaaAbs
open Go Go.RowKit Go.ChangeShapes
variable [Base]
section
variable {H : Type} {enc0 : TypeId × Value → H} {P : Program} {W : World}
theorem LK.u64 {v : Value} (h : (LK.int .u64).is v) : ∃ w, v = U w := by
  obtain ⟨x, rfl, hx⟩ := h
  simp only [Lit.wf, Bool.and_eq_true, decide_eq_true_eq] at hx
  have h1 : 0 ≤ x := hx.1
  have h2 : x ≤ 18446744073709551615 := hx.2
  refine ⟨BitVec.ofInt 64 x, ?_⟩
  unfold U; rw [BitVec.toNat_ofInt]
  congr 1
  omega
theorem LK.i64 {v : Value} (h : (LK.int .i64).is v) : ∃ x : Int, v = .int .i64 x ∧ -9223372036854775808 ≤ x ∧ x ≤ 9223372036854775807 := by
  obtain ⟨x, rfl, hx⟩ := h
  simp only [Lit.wf, Bool.and_eq_true, decide_eq_true_eq] at hx
  exact ⟨x, rfl, hx.1, hx.2⟩
theorem Cells.flats2 {k1 k2 : LK} {c : List Value} (h : Cells enc0 P W [.flat k1, .flat k2] c) : ∃ a b, c = [a, b] ∧ k1.is a ∧ k2.is b := by
  match c, h with
  | [], h => exact absurd h.len (by simp)
  | [_], h => exact absurd h.len (by simp)
  | a :: b :: x :: r, h => exact absurd h.len (by simp)
  | [a, b], h => exact ⟨a, b, rfl, h.at_ 0 (by simp) (by simp), h.at_ 1 (by simp) (by simp)⟩
theorem Cells.flats1 {k1 : CK} {c : List Value} (h : Cells enc0 P W [k1] c) : ∃ a, c = [a] ∧ k1.is enc0 P W a := by
  match c, h with
  | [], h => exact absurd h.len (by simp)
  | a :: b :: r, h => exact absurd h.len (by simp)
  | [a], h => exact ⟨a, rfl, h.at_ 0 (by simp) (by simp)⟩
theorem Cells.flats3 {k1 k2 k3 : LK} {c : List Value} (h : Cells enc0 P W [.flat k1, .flat k2, .flat k3] c) : ∃ a b d, c = [a, b, d] ∧ k1.is a ∧ k2.is b ∧ k3.is d := by
  match c, h with
  | [], h => exact absurd h.len (by simp)
  | [_], h => exact absurd h.len (by simp)
  | [_, _], h => exact absurd h.len (by simp)
  | a :: b :: x :: y :: r, h => exact absurd h.len (by simp)
  | [a, b, d], h => exact ⟨a, b, d, rfl, h.at_ 0 (by simp) (by simp), h.at_ 1 (by simp) (by simp), h.at_ 2 (by simp) (by simp)⟩
/-- An argument of one cell. -/
theorem trod_one {t d : Nat} {k : CK} {v : Value} {x : DataW H} {ps : List MemPlace} (hk : ckinds P d t = some [k]) (h : DataW.Trod enc0 P W 0 (fun _ => true) true t v x ps) (hv : ∀ xs, v ≠ .agg xs) : k.is enc0 P W v := by
  obtain ⟨fuel, h⟩ := h
  obtain ⟨a, ha, hka⟩ := (ckinds_sound d t _ fuel _ _ hk h).flats1
  have : v.cells.toList = [v] := by cases v <;> first | rfl | exact absurd rfl (hv _)
  rw [this] at ha
  cases ha
  exact hka
/-- A list out of chunks. -/
theorem chunks {α : Type} {enc : α → List Value} {good : α → Prop} {e : Nat} (he : 0 < e) : ∀ (m : Nat) (ys : List Value), ys.length = m * e → (∀ i, i < m → ∃ x : α, enc x = (ys.drop (i * e)).take e ∧ good x) → ∃ xs : List α, xs.length = m ∧ ys = xs.flatMap enc ∧ ∀ x ∈ xs, good x
  | 0, ys, hl, h => ⟨[], rfl, by simpa using hl, fun x hx => by cases hx⟩
  | m + 1, ys, hl, h => by
    obtain ⟨x, hx, hg⟩ := h 0 (by omega)
    rw [Nat.succ_mul] at hl
    obtain ⟨xs, h1, h2, h3⟩ := chunks (enc := enc) (good := good) he m (ys.drop e) (by rw [List.length_drop]; omega) fun i hi => by
      obtain ⟨x, hx, hg⟩ := h (i + 1) (by omega)
      refine ⟨x, ?_, hg⟩
      rw [hx, List.drop_drop, Nat.succ_mul, Nat.add_comm]
    refine ⟨x :: xs, by simp [h1], ?_, fun y hy => ?_⟩
    · rw [List.flatMap_cons, ← h2, hx, Nat.zero_mul, List.drop_zero, List.take_append_drop]
    · cases hy with
      | head => exact hg
      | tail _ hy => exact h3 y hy
/-- A slice among the arguments. -/
theorem rd_of_slice {α : Type} {enc : α → List Value} {good : α → Prop} {el d e : Nat} {ks : List CK} {v : Value} (hk : ckinds P d el = some ks) (hflat : ∀ k ∈ ks, ∃ l, k = .flat l) (hlen : ks.length = e) (hce : P.cellsOf el = e) (hpos : 0 < e)
    (dec : ∀ c, Cells enc0 P W ks c → ∃ x : α, enc x = c ∧ good x) (h : (CK.slice el).is enc0 P W v) :
    VRel (idR W) (szOf W) (absV P (.slice el) v) v ∧ ∃ xs : List α, Rd (heapView W) e enc (absV P (.slice el) v) xs ∧ (∀ x ∈ xs, good x) ∧ xs.length ≤ 9223372036854775807 := by
  subst hce
  obtain ⟨h1, m, ys, h2, h3, h4, h5⟩ := absV_slice hk hflat hlen hpos h
  obtain ⟨xs, h6, h7, h8⟩ := chunks hpos m ys h3 fun i hi => dec _ (h5 i hi)
  exact ⟨h1, xs, by unfold Rd; rw [h2, h6, h7], h8, by rw [h6]; exact Nat.le_trans h4 (by decide)⟩
end
theorem heapView_dom (W : World) : ∀ i, heapView W i ≠ none → i < W.heap.size := fun i hi => by
  unfold heapView at hi
  split at hi
  · rename_i h; exact (Array.getElem?_eq_some_iff.1 h).1
  · exact absurd rfl hi
theorem VRs.cons' {ρ : Nat → Option Nat} {sz : Nat → Nat} {v cv : Value} {vs cvs : List Value} (h : VRel ρ sz v cv) (h' : VRs ρ sz vs cvs) : VRs ρ sz (v :: vs) (cv :: cvs) := ⟨by simp [h'.len], fun i h1 h2 => by
  cases i with
  | zero => exact h
  | succ i => exact h'.at_ i (by simpa using h1) (by simpa using h2)⟩
theorem Kept.skip {g g' : AMem} {n n' : Nat} (h : Kept g n g' n') : Kept g n g' (n' + 1) := ⟨Nat.le_succ_of_le h.le, h.same, fun i hi => Nat.lt_succ_of_lt (h.dom i hi)⟩
end Go.Proofs.YtkcahnefekkfaaaAbs
