/- The abstract layer, part A: no statement is proved here; abstract values, heaps and walks, and that the machine does as they say. -/
import Derived.Orders
import Derived.Below
import Derived.KernelRfl
import Derived.Laws.Externs
import Derived.Laws.AppendOwn
import Derived.WalkKit
import Derived.Laws.MakeOwn
import Derived.LoopN
set_option linter.unusedVariables false
set_option linter.unusedSimpArgs false
set_option linter.unusedSectionVars false
namespace Go.Proofs.YtkcahnefekkfaaaAbs
open Go Go.RowKit

/-- Nothing is known of it. -/
def junk : Value := .chan (some 0)

/-- What an abstract value says of a machine's value: 'ρ' tells each abstract block's own block, 'sz' how many cells a block has.
A slice's third number is the size of its elements in cells; a spot 'some 0' marks an empty slice of unknown place, 'some 1' one without room. -/
inductive VRel (ρ : Nat → Option Nat) (sz : Nat → Nat) : Value → Value → Prop
  | junk (cv : Value) : VRel ρ sz YtkcahnefekkfaaaAbs.junk cv
  | bool (b : Bool) : VRel ρ sz (.bool b) (.bool b)
  | int (k : IntKind) (n : Int) : VRel ρ sz (.int k n) (.int k n)
  | float (k : FloatKind) (n : Nat) : VRel ρ sz (.float k n) (.float k n)
  | complex (k : FloatKind) (a b : Nat) : VRel ρ sz (.complex k a b) (.complex k a b)
  | string (s : ByteArray) : VRel ρ sz (.string s) (.string s)
  | ptrNil : VRel ρ sz (.pointer none) (.pointer none)
  | ptr (b o b' : Nat) (h : ρ b = some b') : VRel ρ sz (.pointer (some ⟨b, o, none⟩)) (.pointer (some ⟨b', o, none⟩))
  | sliceNil : VRel ρ sz (.slice none 0 0) (.slice none 0 0)
  | slice (b o n e b' c : Nat) (h : ρ b = some b') (hn : n ≤ c) (hc : o + c * e ≤ sz b') :
      VRel ρ sz (.slice (some ⟨b, o, none⟩) n e) (.slice (some ⟨b', o, none⟩) n c)
  | sliceLost (a a' : Addr) (e c : Nat) (h : a.spot = some 0) : VRel ρ sz (.slice (some a) 0 e) (.slice (some a') 0 c)
  | sliceFull (a a' : Addr) (e : Nat) (h : a.spot = some 1) : VRel ρ sz (.slice (some a) 0 e) (.slice (some a') 0 0)
  | mapNil : VRel ρ sz (.map none) (.map none)
  | map (b b' : Nat) (h : ρ b = some b') : VRel ρ sz (.map (some b)) (.map (some b'))
  | nilFunc : VRel ρ sz .nilFunc .nilFunc
  | func (fn : Fn) (xs ys xs' ys' : Array Value) (hx : xs.size = xs'.size) (hy : ys.size = ys'.size)
      (h : ∀ (i : Nat) (h1 : i < xs.size) (h2 : i < xs'.size), VRel ρ sz xs[i] xs'[i])
      (h' : ∀ (i : Nat) (h1 : i < ys.size) (h2 : i < ys'.size), VRel ρ sz ys[i] ys'[i]) : VRel ρ sz (.func fn xs ys) (.func fn xs' ys')
  | nilIface : VRel ρ sz .nilIface .nilIface
  | iface (t : TypeId) (v v' : Value) (h : VRel ρ sz v v') : VRel ρ sz (.iface t v) (.iface t v')
  | agg (xs ys : Array Value) (hs : xs.size = ys.size) (h : ∀ (i : Nat) (h1 : i < xs.size) (h2 : i < ys.size), VRel ρ sz xs[i] ys[i]) :
      VRel ρ sz (.agg xs) (.agg ys)
  | tuple (xs ys : Array Value) (hs : xs.size = ys.size) (h : ∀ (i : Nat) (h1 : i < xs.size) (h2 : i < ys.size), VRel ρ sz xs[i] ys[i]) :
      VRel ρ sz (.tuple xs) (.tuple ys)

/-- Lists of them. -/
structure VRs (ρ : Nat → Option Nat) (sz : Nat → Nat) (xs ys : List Value) : Prop where
  len : xs.length = ys.length
  at_ : ∀ (i : Nat) (h1 : i < xs.length) (h2 : i < ys.length), VRel ρ sz xs[i] ys[i]

theorem VRel.mono {ρ ρ' : Nat → Option Nat} {sz sz' : Nat → Nat} (hρ : ∀ i b, ρ i = some b → ρ' i = some b) (hs : ∀ b, sz b ≤ sz' b)
    {v cv : Value} (h : VRel ρ sz v cv) : VRel ρ' sz' v cv := by
  induction h with
  | junk cv => exact .junk cv
  | bool b => exact .bool b
  | int k n => exact .int k n
  | float k n => exact .float k n
  | complex k a b => exact .complex k a b
  | string s => exact .string s
  | ptrNil => exact .ptrNil
  | ptr b o b' h => exact .ptr b o b' (hρ _ _ h)
  | sliceNil => exact .sliceNil
  | slice b o n e b' c h hn hc => exact .slice b o n e b' c (hρ _ _ h) hn (Nat.le_trans hc (hs _))
  | sliceLost a a' e c h => exact .sliceLost a a' e c h
  | sliceFull a a' e h => exact .sliceFull a a' e h
  | mapNil => exact .mapNil
  | map b b' h => exact .map b b' (hρ _ _ h)
  | nilFunc => exact .nilFunc
  | func fn xs ys xs' ys' hx hy h h' ih ih' => exact .func fn xs ys xs' ys' hx hy ih ih'
  | nilIface => exact .nilIface
  | iface t v v' h ih => exact .iface t v v' ih
  | agg xs ys hs h ih => exact .agg xs ys hs ih
  | tuple xs ys hs h ih => exact .tuple xs ys hs ih

theorem VRs.mono {ρ ρ' : Nat → Option Nat} {sz sz' : Nat → Nat} (hρ : ∀ i b, ρ i = some b → ρ' i = some b) (hs : ∀ b, sz b ≤ sz' b)
    {xs ys : List Value} (h : VRs ρ sz xs ys) : VRs ρ' sz' xs ys := ⟨h.len, fun i h1 h2 => (h.at_ i h1 h2).mono hρ hs⟩
theorem VRs.nil (ρ : Nat → Option Nat) (sz : Nat → Nat) : VRs ρ sz [] [] := ⟨rfl, fun i h => by simp at h⟩
theorem VRs.cons {ρ : Nat → Option Nat} {sz : Nat → Nat} {x y : Value} {xs ys : List Value} (h : VRel ρ sz x y) (hs : VRs ρ sz xs ys) : VRs ρ sz (x :: xs) (y :: ys) := by
  refine ⟨by simp [hs.len], fun i h1 h2 => ?_⟩
  cases i with
  | zero => exact h
  | succ i => exact hs.at_ i (by simpa using h1) (by simpa using h2)
theorem VRs.get {ρ : Nat → Option Nat} {sz : Nat → Nat} {xs ys : List Value} (h : VRs ρ sz xs ys) {i : Nat} {x : Value} (hx : xs[i]? = some x) : ∃ y, ys[i]? = some y ∧ VRel ρ sz x y := by
  obtain ⟨h1, rfl⟩ := List.getElem?_eq_some_iff.1 hx
  exact ⟨ys[i]'(h.len ▸ h1), List.getElem?_eq_getElem _, h.at_ i h1 _⟩
theorem VRs.append {ρ : Nat → Option Nat} {sz : Nat → Nat} {xs ys xs' ys' : List Value} (h : VRs ρ sz xs ys) (h' : VRs ρ sz xs' ys') : VRs ρ sz (xs ++ xs') (ys ++ ys') := by
  induction xs generalizing ys with
  | nil => have := h.len; cases ys with
    | nil => exact h'
    | cons => simp at this
  | cons x xs ih =>
    have := h.len
    cases ys with
    | nil => simp at this
    | cons y ys => exact .cons (h.at_ 0 (by simp) (by simp)) (ih ⟨by simpa using this, fun i h1 h2 => h.at_ (i + 1) (by simpa using h1) (by simpa using h2)⟩)
theorem VRs.take {ρ : Nat → Option Nat} {sz : Nat → Nat} {xs ys : List Value} (h : VRs ρ sz xs ys) (n : Nat) : VRs ρ sz (xs.take n) (ys.take n) :=
  ⟨by simp [h.len], fun i h1 h2 => by simp only [List.getElem_take]; exact h.at_ i _ _⟩
theorem VRs.drop {ρ : Nat → Option Nat} {sz : Nat → Nat} {xs ys : List Value} (h : VRs ρ sz xs ys) (n : Nat) : VRs ρ sz (xs.drop n) (ys.drop n) :=
  ⟨by simp [h.len], fun i h1 h2 => by simp only [List.getElem_drop]; exact h.at_ _ _ _⟩
theorem VRs.set {ρ : Nat → Option Nat} {sz : Nat → Nat} {xs ys : List Value} (h : VRs ρ sz xs ys) (i : Nat) {x y : Value} (hx : VRel ρ sz x y) : VRs ρ sz (xs.set i x) (ys.set i y) := by
  refine ⟨by simp [h.len], fun j h1 h2 => ?_⟩
  simp only [List.getElem_set]
  split
  · exact hx
  · exact h.at_ _ _ _

theorem VRel.agg' {ρ : Nat → Option Nat} {sz : Nat → Nat} {xs ys : Array Value} (h : VRs ρ sz xs.toList ys.toList) : VRel ρ sz (.agg xs) (.agg ys) :=
  .agg xs ys (by simpa using h.len) fun i h1 h2 => h.at_ i (by simpa using h1) (by simpa using h2)
theorem VRel.tuple' {ρ : Nat → Option Nat} {sz : Nat → Nat} {xs ys : Array Value} (h : VRs ρ sz xs.toList ys.toList) : VRel ρ sz (.tuple xs) (.tuple ys) :=
  .tuple xs ys (by simpa using h.len) fun i h1 h2 => h.at_ i (by simpa using h1) (by simpa using h2)
theorem VRel.agg_inv {ρ : Nat → Option Nat} {sz : Nat → Nat} {xs : Array Value} {cv : Value} (h : VRel ρ sz (.agg xs) cv) : ∃ ys, cv = .agg ys ∧ VRs ρ sz xs.toList ys.toList := by
  cases h with
  | agg _ ys hs h => exact ⟨ys, rfl, ⟨by simpa using hs, fun i h1 h2 => by simpa using h i (by simpa using h1) (by simpa using h2)⟩⟩
theorem VRel.tuple_inv {ρ : Nat → Option Nat} {sz : Nat → Nat} {xs : Array Value} {cv : Value} (h : VRel ρ sz (.tuple xs) cv) : ∃ ys, cv = .tuple ys ∧ VRs ρ sz xs.toList ys.toList := by
  cases h with
  | tuple _ ys hs h => exact ⟨ys, rfl, ⟨by simpa using hs, fun i h1 h2 => by simpa using h i (by simpa using h1) (by simpa using h2)⟩⟩
/-- A value's cells. -/
theorem VRel.cells {ρ : Nat → Option Nat} {sz : Nat → Nat} {v cv : Value} (h : VRel ρ sz v cv) (hj : v ≠ YtkcahnefekkfaaaAbs.junk) : VRs ρ sz v.cells.toList cv.cells.toList := by
  cases h with
  | junk => exact absurd rfl hj
  | agg xs ys hs h => exact ⟨by simpa [Value.cells] using hs, fun i h1 h2 => h i (by simpa [Value.cells] using h1) (by simpa [Value.cells] using h2)⟩
  | sliceFull a a' e h => exact .cons (.sliceFull a a' e h) (.nil _ _)
  | sliceLost a a' e c h => exact .cons (.sliceLost a a' e c h) (.nil _ _)
  | _ => exact .cons (by constructor <;> assumption) (.nil _ _)

/-- It holds no address. -/
def flatV : Value → Bool
  | .bool _ | .int _ _ | .float _ _ | .complex _ _ _ | .string _ | .pointer none | .slice none 0 0 | .map none | .nilFunc | .nilIface => true
  | _ => false
def pureV : Value → Bool
  | .agg xs => xs.toList.all flatV
  | .tuple xs => xs.toList.all flatV
  | .func _ xs ys => xs.isEmpty && ys.isEmpty
  | v => flatV v
theorem flatV_rel {ρ : Nat → Option Nat} {sz : Nat → Nat} {v : Value} (h : flatV v = true) : VRel ρ sz v v := by
  unfold flatV at h
  split at h <;> first | constructor | cases h
theorem pureV_rel {ρ : Nat → Option Nat} {sz : Nat → Nat} {v : Value} (h : pureV v = true) : VRel ρ sz v v := by
  unfold pureV at h
  split at h
  · rw [List.all_eq_true] at h
    exact .agg _ _ rfl fun i h1 h2 => flatV_rel (h _ (by simp))
  · rw [List.all_eq_true] at h
    exact .tuple _ _ rfl fun i h1 h2 => flatV_rel (h _ (by simp))
  · simp at h
    obtain ⟨rfl, rfl⟩ := h
    exact .func _ _ _ _ _ rfl rfl (fun i h1 => by simp at h1) (fun i h1 => by simp at h1)
  · exact flatV_rel h

/-- An abstract block. 'rw': nobody has frozen it. -/
inductive AObj where
  | row (cs : List Value) (rw : Bool)
  | map (es : List (Value × Value))
  | iter (s : ByteArray) (pos : Nat)

/-- How many cells a block has. -/
def szOf (w : World) (b : Nat) : Nat := match w.heap[b]? with | some (.cells c _ _) => c.size | _ => 0

inductive ORel (ρ : Nat → Option Nat) (sz : Nat → Nat) : AObj → Obj → Prop
  | row (cs : List Value) (rw : Bool) (c : Array Value) (t : TypeId) (fr : Nat × Nat) (hrw : rw = true → fr = (0, 0))
      (hl : cs.length ≤ c.size) (h : VRs ρ sz cs (c.toList.take cs.length)) : ORel ρ sz (.row cs rw) (.cells c t fr)
  | map (es : List (Value × Value)) (ces : Array MapEntry) (clock : Nat) (hl : es.length = ces.size)
      (h : ∀ (i : Nat) (h1 : i < es.length) (h2 : i < ces.size), VRel ρ sz es[i].1 ces[i].key ∧ VRel ρ sz es[i].2 ces[i].val) : ORel ρ sz (.map es) (.map ces clock)
  | iter (s : ByteArray) (pos : Nat) : ORel ρ sz (.iter s pos) (.stringIter s pos)

theorem ORel.mono {ρ ρ' : Nat → Option Nat} {sz sz' : Nat → Nat} (hρ : ∀ i b, ρ i = some b → ρ' i = some b) (hs : ∀ b, sz b ≤ sz' b)
    {o : AObj} {co : Obj} (h : ORel ρ sz o co) : ORel ρ' sz' o co := by
  cases h with
  | row cs rw c t fr hrw hl h => exact .row cs rw c t fr hrw hl (h.mono hρ hs)
  | map es ces clock hl h => exact .map es ces clock hl fun i h1 h2 => ⟨(h i h1 h2).1.mono hρ hs, (h i h1 h2).2.mono hρ hs⟩
  | iter s pos => exact .iter s pos

abbrev AMem := Nat → Option AObj

/-- What an abstract heap says of a world. -/
structure GRep (ρ : Nat → Option Nat) (g : AMem) (n : Nat) (w : World) : Prop where
  obj : ∀ i o, g i = some o → ∃ b co, ρ i = some b ∧ w.heap[b]? = some co ∧ ORel ρ (szOf w) o co
  inj : ∀ i j b, g i ≠ none → g j ≠ none → ρ i = some b → ρ j = some b → i = j
  dom : ∀ i, n ≤ i → ρ i = none
  old : ∀ i b, ρ i = some b → b < w.heap.size

/-- Worlds: nothing but the blocks that are named has turned. -/
structure Frame0 (touched : Nat → Prop) (w w' : World) : Prop where
  os : w'.os = w.os
  tape : w'.tape = w.tape
  output : w'.output = w.output
  size : w.heap.size ≤ w'.heap.size
  block : ∀ b, b < w.heap.size → ¬ touched b → w'.heap[b]? = w.heap[b]?
  cells : ∀ b, szOf w b ≤ szOf w' b

/-- One step (an operation, a call): from a state that 'ρ, g, n' tell of to one that 'g', n'' tell of, with a value. -/
structure Trans (touch : Nat → Prop) (ρ : Nat → Option Nat) (g : AMem) (n : Nat) (w : World) (v : Value) (g' : AMem) (n' : Nat) (cv : Value) (w' : World) (ρ' : Nat → Option Nat) : Prop where
  val : VRel ρ' (szOf w') v cv
  rep : GRep ρ' g' n' w'
  le : n ≤ n'
  ext : ∀ i, i < n → ρ' i = ρ i
  frame : Frame0 (fun b => ∃ i, i < n ∧ touch i ∧ ρ i = some b) w w'
  fresh : ∀ j b, n ≤ j → ρ' j = some b → w.heap.size ≤ b ∨ ∃ i, i < n ∧ touch i ∧ ρ i = some b
  keep : ∀ i, i < n → g i = none → g' i = none

theorem Frame0.refl (t : Nat → Prop) (w : World) : Frame0 t w w := ⟨rfl, rfl, rfl, Nat.le_refl _, fun _ _ _ => rfl, fun _ => Nat.le_refl _⟩
theorem Frame0.mono {t t' : Nat → Prop} {w w' : World} (h : Frame0 t w w') (ht : ∀ b, b < w.heap.size → t b → t' b) : Frame0 t' w w' :=
  ⟨h.os, h.tape, h.output, h.size, fun b hb hn => h.block b hb fun x => hn (ht b hb x), h.cells⟩
theorem Frame0.trans {t : Nat → Prop} {w w1 w2 : World} {t' : Nat → Prop} (h : Frame0 t w w1) (h' : Frame0 t' w1 w2) (ht : ∀ b, b < w.heap.size → t' b → t b) : Frame0 t w w2 :=
  ⟨h'.os.trans h.os, h'.tape.trans h.tape, h'.output.trans h.output, Nat.le_trans h.size h'.size,
   fun b hb hn => (h'.block b (Nat.lt_of_lt_of_le hb h.size) fun x => hn (ht b hb x)).trans (h.block b hb hn), fun b => Nat.le_trans (h.cells b) (h'.cells b)⟩

/-- A function without a body that the model itself knows. -/
def extFn (P : Program) (f : FuncId) : Option (Array Value → Sem Value) := match P.funcs[f]? with
  | some fn => if fn.body.isNone && !(fn.name == "runtime.NumGoroutine") && (Extern.findNext fn).isNone then Extern.find fn else none
  | none => none
theorem extFn_body {P : Program} {f : FuncId} {fn : Func} {c : Code} (hf : P.funcs[f]? = some fn) (hb : fn.body = some c) : extFn P f = none := by
  unfold extFn; rw [hf]; simp [hb]
/-- A call, of a function with a body or of one that the model knows. -/
def CallsX (P : Program) (f : FuncId) (args : Array Value) (w : World) (R : Ending → World → Prop) : Prop := match extFn P f with
  | some e => ∃ cv, (e args).run P w = .ok cv w ∧ R (.returned cv) w
  | none => Calls P f args w R
theorem CallsX.mono {P : Program} {f : FuncId} {args : Array Value} {w : World} {R R' : Ending → World → Prop} (h : CallsX P f args w R) (hr : ∀ e w', R e w' → R' e w') : CallsX P f args w R' := by
  unfold CallsX at h ⊢
  split at h
  · obtain ⟨cv, h1, h2⟩ := h; exact ⟨cv, h1, hr _ _ h2⟩
  · exact Calls.mono h hr
theorem CallsX.of {P : Program} {f : FuncId} {args : Array Value} {w : World} {R : Ending → World → Prop} (he : extFn P f = none) (h : Calls P f args w R) : CallsX P f args w R := by
  unfold CallsX; rw [he]; exact h
theorem CallsX.to {P : Program} {f : FuncId} {args : Array Value} {w : World} {R : Ending → World → Prop} (he : extFn P f = none) (h : CallsX P f args w R) : Calls P f args w R := by
  unfold CallsX at h; rw [he] at h; exact h
/-- What the package variables' blocks hold: the first K blocks are as in the world W. -/
class Base where
  K : Nat
  W : World
def BaseW [Base] (w : World) : Prop := (∀ b, b < Base.K → w.heap[b]? = Base.W.heap[b]?) ∧ Base.K ≤ w.heap.size
structure BaseOk [Base] (ρ : Nat → Option Nat) (n : Nat) (touch : Nat → Prop) (w : World) : Prop where
  base : BaseW w
  out : ∀ i b, i < n → touch i → ρ i = some b → Base.K ≤ b
theorem BaseOk.mono [Base] {ρ : Nat → Option Nat} {n : Nat} {t t' : Nat → Prop} {w : World} (h : BaseOk ρ n t' w) (ht : ∀ i, i < n → t i → t' i) : BaseOk ρ n t w := ⟨h.base, fun i b h1 h2 h3 => h.out i b h1 (ht i h1 h2) h3⟩
/-- **A FUNCTION's CONTRACT**: in every state that 'g, n' tell of, with these arguments it returns this value and leaves this heap. -/
def FnC [Base] (P : Program) (f : FuncId) (args : List Value) (g : AMem) (n : Nat) (touch : Nat → Prop) (v : Value) (g' : AMem) (n' : Nat) : Prop :=
  ∀ ρ w (cargs : Array Value), BaseOk ρ n touch w → GRep ρ g n w → VRs ρ (szOf w) args cargs.toList →
    CallsX P f cargs w fun e w' => ∃ cv ρ', e = .returned cv ∧ Trans touch ρ g n w v g' n' cv w' ρ'

end Go.Proofs.YtkcahnefekkfaaaAbs

namespace Go.Proofs.YtkcahnefekkfaaaAbs
open Go Go.RowKit
variable [Base]

def gset (g : AMem) (i : Nat) (o : Option AObj) : AMem := fun j => if j = i then o else g j
def rset (ρ : Nat → Option Nat) (i : Nat) (b : Nat) : Nat → Option Nat := fun j => if j = i then some b else ρ j
theorem gset_same (g : AMem) (i : Nat) (o : Option AObj) : gset g i o i = o := if_pos rfl
theorem gset_ne (g : AMem) {i j : Nat} (o : Option AObj) (h : j ≠ i) : gset g i o j = g j := if_neg h

/-- What an operation does to the heap: nothing; a new block; a block written; a block that has become (another number's) a longer one. -/
inductive Eff where
  | none
  | new (o : AObj)
  | put (i : Nat) (o : AObj)
  | move (i : Nat) (o : AObj)
def Eff.mem (g : AMem) (n : Nat) : Eff → AMem
  | .none => g
  | .new o => gset g n (some o)
  | .put i o => gset g i (some o)
  | .move i o => gset (gset g i Option.none) n (some o)
def Eff.next (n : Nat) : Eff → Nat
  | .none => n
  | .new _ => n + 1
  | .put _ _ => n
  | .move _ _ => n + 1
def Eff.touch : Eff → Nat → Prop
  | .put i _, j => j = i
  | .move i _, j => j = i
  | _, _ => False

/-! ### Worlds -/
theorem alloc_old (w : World) (o : Obj) (i : Nat) (h : i < w.heap.size) : (w.alloc o).heap[i]? = w.heap[i]? := by
  show (w.heap.push o)[i]? = _
  rw [Array.getElem?_push, if_neg (by omega)]
theorem alloc_new (w : World) (o : Obj) : (w.alloc o).heap[w.heap.size]? = some o := by
  show (w.heap.push o)[w.heap.size]? = _
  rw [Array.getElem?_push, if_pos rfl]
theorem szOf_alloc (w : World) (o : Obj) (b : Nat) : szOf w b ≤ szOf (w.alloc o) b := by
  unfold szOf
  by_cases h : b < w.heap.size
  · rw [alloc_old w o b h]; exact Nat.le_refl _
  · rw [Array.getElem?_eq_none (by omega)]; exact Nat.zero_le _
theorem szOf_same {w w' : World} (h : w'.heap = w.heap) : szOf w' = szOf w := by funext b; simp [szOf, h]
theorem szOf_setRow {w : World} {b : Nat} {old cs : Array Value} {t : TypeId} {fr : Nat × Nat} (h : w.heap[b]? = some (.cells old t fr)) (hs : cs.size = old.size) (k : Nat) : szOf (w.setRow b cs) k = szOf w k := by
  unfold szOf
  by_cases e : k = b
  · subst e; rw [setRow_heap w k old cs t fr h, h]; exact hs
  · rw [setRow_other w b k cs e]
theorem Frame0.alloc (t : Nat → Prop) (w : World) (o : Obj) : Frame0 t w (w.alloc o) :=
  ⟨rfl, rfl, rfl, by simp, fun b hb _ => alloc_old w o b hb, szOf_alloc w o⟩
theorem Frame0.same {t : Nat → Prop} {w w' : World} (hh : w'.heap = w.heap) (h1 : w'.os = w.os) (h2 : w'.tape = w.tape) (h3 : w'.output = w.output) : Frame0 t w w' :=
  ⟨h1, h2, h3, by rw [hh]; exact Nat.le_refl _, fun b _ _ => by rw [hh], fun b => by rw [szOf_same hh]; exact Nat.le_refl _⟩
theorem Frame0.drew (t : Nat → Prop) (w : World) : Frame0 t w w.drew := Frame0.same rfl rfl rfl rfl

/-! ### Steps -/
section
variable {ρ : Nat → Option Nat} {g : AMem} {n : Nat} {w : World}

theorem GRep.same {w' : World} (h : GRep ρ g n w) (hh : w'.heap = w.heap) : GRep ρ g n w' :=
  ⟨fun i o hi => let ⟨b, co, h1, h2, h3⟩ := h.obj i o hi; ⟨b, co, h1, by rw [hh]; exact h2, by rw [szOf_same hh]; exact h3⟩, h.inj, h.dom, by rw [hh]; exact h.old⟩
theorem GRep.block {i : Nat} {o : AObj} (h : GRep ρ g n w) (hi : g i = some o) : ∃ b co, ρ i = some b ∧ w.heap[b]? = some co ∧ ORel ρ (szOf w) o co := h.obj i o hi
theorem GRep.lt {i : Nat} {b : Nat} (h : GRep ρ g n w) (hi : ρ i = some b) : i < n := by
  rcases Nat.lt_or_ge i n with h' | h'
  · exact h'
  · rw [h.dom i h'] at hi; cases hi
theorem GRep.ltg {i : Nat} {o : AObj} (h : GRep ρ g n w) (hi : g i = some o) : i < n := let ⟨_, _, h1, _⟩ := h.obj i o hi; h.lt h1

/-- Nothing but a draw. -/
theorem Trans.stay {t : Nat → Prop} {v cv : Value} {w' : World} (h : GRep ρ g n w) (hv : VRel ρ (szOf w) v cv) (hh : w'.heap = w.heap) (h1 : w'.os = w.os) (h2 : w'.tape = w.tape) (h3 : w'.output = w.output) :
    Trans t ρ g n w v g n cv w' ρ :=
  ⟨by rw [szOf_same hh]; exact hv, h.same hh, Nat.le_refl _, fun _ _ => rfl, Frame0.same hh h1 h2 h3, fun j b hj hb => (by rw [h.dom j hj] at hb; cases hb), fun _ _ h => h⟩

theorem rset_ext (h : GRep ρ g n w) (b : Nat) : ∀ i c, ρ i = some c → rset ρ n b i = some c := fun i c hi => by
  have := h.lt hi
  unfold rset; rw [if_neg (by omega)]; exact hi

/-- A new block. 'w1' is the world with the draw that came before. -/
theorem Trans.new {t : Nat → Prop} {v cv : Value} {o : AObj} {co : Obj} {w1 : World} (h : GRep ρ g n w) (hh : w1.heap = w.heap) (h1 : w1.os = w.os) (h2 : w1.tape = w.tape) (h3 : w1.output = w.output)
    (ho : ORel ρ (szOf w) o co) (hv : VRel (rset ρ n w.heap.size) (szOf (w1.alloc co)) v cv) :
    Trans t ρ g n w v (gset g n (some o)) (n + 1) cv (w1.alloc co) (rset ρ n w.heap.size) := by
  have hs1 : w1.heap.size = w.heap.size := by rw [hh]
  have hsz : ∀ b, szOf w b ≤ szOf (w1.alloc co) b := fun b => by rw [← szOf_same hh]; exact szOf_alloc w1 co b
  have hext := rset_ext h w.heap.size
  refine ⟨hv, ⟨?_, ?_, ?_, ?_⟩, by omega, fun i hi => if_neg (by omega), (Frame0.same hh h1 h2 h3).trans (Frame0.alloc _ _ _) (fun _ _ h => h), ?_, ?_⟩
  · intro i x hi
    by_cases e : i = n
    · subst e
      rw [gset_same] at hi
      cases hi
      exact ⟨w.heap.size, co, if_pos rfl, by rw [← hs1]; exact alloc_new w1 co, ho.mono hext hsz⟩
    · rw [gset_ne _ _ e] at hi
      obtain ⟨b, c, e1, e2, e3⟩ := h.obj i x hi
      have hb := (Array.getElem?_eq_some_iff.1 e2).1
      exact ⟨b, c, hext _ _ e1, by rw [alloc_old w1 co b (by omega), hh]; exact e2, e3.mono hext hsz⟩
  · intro i j b hi hj ei ej
    by_cases e : i = n
    · by_cases e' : j = n
      · omega
      · have hb : ρ j = some b := by simpa [rset, e'] using ej
        have := h.old j b hb
        have : b = w.heap.size := by simpa [rset, e] using ei.symm
        omega
    · by_cases e' : j = n
      · have hb : ρ i = some b := by simpa [rset, e] using ei
        have := h.old i b hb
        have : b = w.heap.size := by simpa [rset, e'] using ej.symm
        omega
      · rw [gset_ne _ _ e] at hi
        rw [gset_ne _ _ e'] at hj
        exact h.inj i j b hi hj (by simpa [rset, e] using ei) (by simpa [rset, e'] using ej)
  · intro i hi
    have : i ≠ n := by omega
    simp only [rset, if_neg this]
    exact h.dom i (by omega)
  · intro i b hi
    by_cases e : i = n
    · have : b = w.heap.size := by simpa [rset, e] using hi.symm
      simp [this, hs1]
    · have hb : ρ i = some b := by simpa [rset, e] using hi
      have := h.old i b hb
      simp [hs1]; omega
  · intro j b hj hb
    by_cases e : j = n
    · have : b = w.heap.size := by simpa [rset, e] using hb.symm
      exact .inl (by omega)
    · have hb' : ρ j = some b := by simpa [rset, e] using hb
      rw [h.dom j hj] at hb'; cases hb'
  · intro i hi hg
    rw [gset_ne _ _ (by omega)]; exact hg

/-- A block written. -/
theorem Trans.put {v cv : Value} {i b : Nat} {o o' : AObj} {old cs : Array Value} {ty : TypeId} {fr : Nat × Nat} {w1 : World} (h : GRep ρ g n w) (hh : w1.heap = w.heap) (h1 : w1.os = w.os) (h2 : w1.tape = w.tape) (h3 : w1.output = w.output)
    (hi : g i = some o) (hb : ρ i = some b) (hw : w.heap[b]? = some (.cells old ty fr)) (hs : cs.size = old.size) (ho : ORel ρ (szOf w) o' (.cells cs ty fr)) (hv : VRel ρ (szOf w) v cv) :
    Trans (fun j => j = i) ρ g n w v (gset g i (some o')) n cv (w1.setRow b cs) ρ := by
  have hw1 : w1.heap[b]? = some (.cells old ty fr) := by rw [hh]; exact hw
  have hsz : szOf (w1.setRow b cs) = szOf w := funext fun k => by rw [szOf_setRow hw1 hs k, szOf_same hh]
  have hhs : (w1.setRow b cs).heap.size = w.heap.size := by simp [World.setRow, hh]
  have hin := h.lt hb
  refine ⟨by rw [hsz]; exact hv, ⟨?_, ?_, h.dom, by rw [hhs]; exact h.old⟩, Nat.le_refl _, fun _ _ => rfl, ⟨h1, h2, h3, by omega, ?_, fun k => by rw [hsz]; exact Nat.le_refl _⟩, fun j c hj hc => (by rw [h.dom j hj] at hc; cases hc), ?_⟩
  · intro j x hj
    by_cases e : j = i
    · subst e
      rw [gset_same] at hj; cases hj
      exact ⟨b, _, hb, setRow_heap w1 b old cs ty fr hw1, by rw [hsz]; exact ho⟩
    · rw [gset_ne _ _ e] at hj
      obtain ⟨c, co, e1, e2, e3⟩ := h.obj j x hj
      have hne : c ≠ b := fun ec => e (h.inj j i b (by rw [hj]; simp) (by rw [hi]; simp) (ec ▸ e1) hb)
      exact ⟨c, co, e1, by rw [setRow_other w1 b c cs hne, hh]; exact e2, by rw [hsz]; exact e3⟩
  · intro j k c hj hk ej ek
    refine h.inj j k c ?_ ?_ ej ek
    · by_cases e : j = i
      · rw [e, hi]; simp
      · rwa [gset_ne _ _ e] at hj
    · by_cases e : k = i
      · rw [e, hi]; simp
      · rwa [gset_ne _ _ e] at hk
  · intro k hk hn
    rw [setRow_other w1 b k cs (fun e => hn ⟨i, hin, rfl, by rw [e]; exact hb⟩), hh]
  · intro j hj hn
    have : j ≠ i := fun e => by rw [e, hi] at hn; cases hn
    rw [gset_ne _ _ this]; exact hn

/-- A block that another number has from now on, written. -/
theorem Trans.move {v cv : Value} {i b : Nat} {o o' : AObj} {old cs : Array Value} {ty : TypeId} {fr : Nat × Nat} (h : GRep ρ g n w)
    (hi : g i = some o) (hb : ρ i = some b) (hw : w.heap[b]? = some (.cells old ty fr)) (hs : cs.size = old.size) (ho : ORel ρ (szOf w) o' (.cells cs ty fr)) (hv : VRel (rset ρ n b) (szOf w) v cv) :
    Trans (fun j => j = i) ρ g n w v (gset (gset g i none) n (some o')) (n + 1) cv (w.setRow b cs) (rset ρ n b) := by
  have hsz : szOf (w.setRow b cs) = szOf w := funext fun k => szOf_setRow hw hs k
  have hhs : (w.setRow b cs).heap.size = w.heap.size := by simp [World.setRow]
  have hin := h.lt hb
  have hext := rset_ext h b
  have hbl := h.old i b hb
  refine ⟨by rw [hsz]; exact hv, ⟨?_, ?_, ?_, ?_⟩, by omega, fun j hj => if_neg (by omega), ⟨rfl, rfl, rfl, by omega, ?_, fun k => by rw [hsz]; exact Nat.le_refl _⟩, ?_, ?_⟩
  · intro j x hj
    by_cases e : j = n
    · subst e
      rw [gset_same] at hj; cases hj
      exact ⟨b, _, if_pos rfl, setRow_heap w b old cs ty fr hw, by rw [hsz]; exact ho.mono hext fun _ => Nat.le_refl _⟩
    · rw [gset_ne _ _ e] at hj
      by_cases e' : j = i
      · subst e'; rw [gset_same] at hj; cases hj
      · rw [gset_ne _ _ e'] at hj
        obtain ⟨c, co, e1, e2, e3⟩ := h.obj j x hj
        have hne : c ≠ b := fun ec => e' (h.inj j i b (by rw [hj]; simp) (by rw [hi]; simp) (ec ▸ e1) hb)
        exact ⟨c, co, hext _ _ e1, by rw [setRow_other w b c cs hne]; exact e2, by rw [hsz]; exact e3.mono hext fun _ => Nat.le_refl _⟩
  · have other : ∀ j, gset (gset g i none) n (some o') j ≠ none → j ≠ n → g j ≠ none ∧ j ≠ i := fun j hj e => by
      rw [gset_ne _ _ e] at hj
      by_cases e' : j = i
      · subst e'; rw [gset_same] at hj; exact absurd rfl hj
      · rw [gset_ne _ _ e'] at hj; exact ⟨hj, e'⟩
    intro j k c hj hk ej ek
    by_cases e : j = n
    · by_cases e' : k = n
      · omega
      · have hc : c = b := by simpa [rset, e] using ej.symm
        have hk' : ρ k = some b := by simpa [rset, e', hc] using ek
        exact absurd (h.inj k i b (other k hk e').1 (by rw [hi]; simp) hk' hb) (other k hk e').2
    · by_cases e' : k = n
      · have hc : c = b := by simpa [rset, e'] using ek.symm
        have hj' : ρ j = some b := by simpa [rset, e, hc] using ej
        exact absurd (h.inj j i b (other j hj e).1 (by rw [hi]; simp) hj' hb) (other j hj e).2
      · exact h.inj j k c (other j hj e).1 (other k hk e').1 (by simpa [rset, e] using ej) (by simpa [rset, e'] using ek)
  · intro j hj
    have : j ≠ n := by omega
    simp only [rset, if_neg this]; exact h.dom j (by omega)
  · intro j c hj
    by_cases e : j = n
    · have : c = b := by simpa [rset, e] using hj.symm
      omega
    · have := h.old j c (by simpa [rset, e] using hj)
      omega
  · intro k hk hn
    rw [setRow_other w b k cs (fun e => hn ⟨i, hin, rfl, by rw [e]; exact hb⟩)]
  · intro j c hj hc
    by_cases e : j = n
    · have : c = b := by simpa [rset, e] using hc.symm
      exact .inr ⟨i, hin, rfl, by rw [this]; exact hb⟩
    · have hc' : ρ j = some c := by simpa [rset, e] using hc
      rw [h.dom j hj] at hc'; cases hc'
  · intro j hj hn
    rw [gset_ne _ _ (by omega)]
    by_cases e : j = i
    · subst e; rw [gset_same]
    · rw [gset_ne _ _ e]; exact hn

theorem Trans.touch_mono {t t' : Nat → Prop} {v cv : Value} {g' : AMem} {n' : Nat} {w' : World} {ρ' : Nat → Option Nat} (h : Trans t ρ g n w v g' n' cv w' ρ') (ht : ∀ i, t i → t' i) : Trans t' ρ g n w v g' n' cv w' ρ' :=
  ⟨h.val, h.rep, h.le, h.ext, h.frame.mono fun b _ ⟨i, h1, h2, h3⟩ => ⟨i, h1, ht i h2, h3⟩,
   fun j b hj hb => (h.fresh j b hj hb).imp id fun ⟨i, h1, h2, h3⟩ => ⟨i, h1, ht i h2, h3⟩, h.keep⟩
end
end Go.Proofs.YtkcahnefekkfaaaAbs

namespace Go.Proofs.YtkcahnefekkfaaaAbs
open Go Go.RowKit
variable [Base]

/-! ### Types, as operations ask of them -/
def tsize (P : Program) (t : TypeId) : Option Nat := (P.info? t).map (·.size)
def tbytes (P : Program) (t : TypeId) : Option Nat := (P.info? t).map (·.bytes)
def tzero (P : Program) (t : TypeId) : Option Value := (P.info? t).bind (·.zero)
def isAggD : TypeDesc → Bool | .struct _ | .array _ _ => true | _ => false
def tagg (P : Program) (t : TypeId) : Option Bool := (P.underlying t).map isAggD
/-- A field's type, its place, and that it takes room. -/
def tfield (P : Program) (t : TypeId) (i : Nat) : Option (TypeId × Nat) := match P.underlying t with
  | some (.struct fs) => (fs[i]?).bind fun f => match tsize P f.type with | some (_ + 1) => some (f.type, f.offset) | _ => none
  | _ => none
def tplaces (P : Program) (t : TypeId) : Option (List (Nat × Nat)) := match P.underlying t with
  | some (.struct fs) => fs.toList.mapM fun f => (tsize P f.type).map fun s => (f.offset, s)
  | _ => none

section
variable {P : Program} {w : World}
theorem run_sizeOf' {t : TypeId} {k : Nat} (h : tsize P t = some k) : (sizeOf t).run P w = .ok k w := by
  unfold tsize at h
  cases hi : P.info? t with
  | none => simp [hi] at h
  | some i => simp [hi] at h; simp [sizeOf, typeInfo, hi, h]
theorem run_typeInfo_bytes {t : TypeId} {k : Nat} (h : tbytes P t = some k) : ∃ i, (typeInfo t).run P w = .ok i w ∧ i.bytes = k := by
  unfold tbytes at h
  cases hi : P.info? t with
  | none => simp [hi] at h
  | some i => simp [hi] at h; exact ⟨i, by simp [typeInfo, hi], h⟩
theorem run_zeroValue' {t : TypeId} {v : Value} (h : tzero P t = some v) : (zeroValue t).run P w = .ok v w := by
  unfold tzero at h
  cases hi : P.info? t with
  | none => simp [hi] at h
  | some i => simp [hi] at h; simp [zeroValue, typeInfo, hi, h]
theorem run_isAgg' {t : TypeId} {b : Bool} (h : tagg P t = some b) : (isAgg t).run P w = .ok b w := by
  unfold tagg at h
  cases hu : P.underlying t with
  | none => simp [hu] at h
  | some d =>
    simp [hu] at h
    cases d <;> simp [isAggD] at h <;> subst h <;> simp [isAgg, run_underlying hu]
end

/-! ### What asks the program alone -/
def Sem.pureRun {α : Type} (P : Program) : Sem α → Option α
  | .pure a => some a
  | .program k => Sem.pureRun P (k P)
  | .mark _ k => Sem.pureRun P k
  | _ => none
theorem Sem.pureRun_run {α : Type} {P : Program} {s : Sem α} {a : α} (h : Sem.pureRun P s = some a) (w : World) : s.run P w = .ok a w := by
  induction s with
  | pure x => simp [Sem.pureRun] at h; subst h; rfl
  | program k ih => exact ih P h
  | mark m k ih => exact ih h
  | _ => simp [Sem.pureRun] at h
theorem Sem.pureRun_pure {α : Type} (P : Program) (a : α) : Sem.pureRun P (Pure.pure a : Sem α) = some a := rfl

/-! ### Cells -/
def splice (cs : List Value) (o : Nat) (vs : List Value) : List Value := cs.take o ++ vs ++ cs.drop (o + vs.length)
theorem splice_length {cs : List Value} {o : Nat} {vs : List Value} (h : o + vs.length ≤ cs.length) : (splice cs o vs).length = cs.length := by
  simp [splice]; omega
theorem splice_one (cs : List Value) (o : Nat) (v : Value) (h : o < cs.length) : splice cs o [v] = cs.set o v := by
  rw [List.set_eq_take_append_cons_drop, if_pos h]; simp [splice]
theorem VRs.splice {ρ : Nat → Option Nat} {sz : Nat → Nat} {xs ys xs' ys' : List Value} (h : VRs ρ sz xs ys) (h' : VRs ρ sz xs' ys') (o : Nat) : VRs ρ sz (splice xs o xs') (splice ys o ys') := by
  unfold YtkcahnefekkfaaaAbs.splice
  rw [h'.len]
  exact ((h.take o).append h').append (h.drop _)

/-- A value that takes one cell, and of which all is known. -/
def cellOk : Value → Bool
  | .agg _ | .tuple _ | .chan _ => false
  | _ => true
theorem cellOk_rel {ρ : Nat → Option Nat} {sz : Nat → Nat} {v cv : Value} (h : VRel ρ sz v cv) (hv : cellOk v = true) : cv.oneCell' = true := by
  cases h <;> first | rfl | (simp [cellOk, YtkcahnefekkfaaaAbs.junk] at hv)
def isJunk : Value → Bool
  | .chan _ => true
  | _ => false
theorem not_junk {v : Value} (h : isJunk v = false) : v ≠ YtkcahnefekkfaaaAbs.junk := fun e => by subst e; simp [isJunk, YtkcahnefekkfaaaAbs.junk] at h

section
variable {ρ : Nat → Option Nat} {g : AMem} {n : Nat} {w : World} {P : Program}

theorem add_none (b o k : Nat) : (⟨b, o, none⟩ : Addr).add k = ⟨b, o + k, none⟩ := by unfold Addr.add; split <;> simp_all

/-- The cells of a row, in the world. -/
theorem GRep.cells {i : Nat} {cs : List Value} {rw_ : Bool} (h : GRep ρ g n w) (hi : g i = some (.row cs rw_)) :
    ∃ b c t fr, ρ i = some b ∧ w.heap[b]? = some (.cells c t fr) ∧ (rw_ = true → fr = (0, 0)) ∧ cs.length ≤ c.size ∧ VRs ρ (szOf w) cs (c.toList.take cs.length) := by
  obtain ⟨b, co, h1, h2, h3⟩ := h.obj i _ hi
  cases h3 with
  | row _ _ c t fr hrw hl hv => exact ⟨b, c, t, fr, h1, h2, hrw, hl, hv⟩

/-- A stretch of a row, in the world. -/
theorem GRep.stretch {i o k : Nat} {cs : List Value} {rw_ : Bool} (h : GRep ρ g n w) (hi : g i = some (.row cs rw_)) (hk : o + k ≤ cs.length) :
    ∃ b ys, ρ i = some b ∧ ys.length = k ∧ VRs ρ (szOf w) ((cs.drop o).take k) ys ∧ (∀ j v, ys[j]? = some v → w.cell? ((⟨b, o, none⟩ : Addr).add j) = some v) := by
  obtain ⟨b, c, t, fr, h1, h2, h3, hl, hv⟩ := h.cells hi
  refine ⟨b, ((c.toList.take cs.length).drop o).take k, h1, by simp; omega, (hv.drop o).take k, fun j v hj => ?_⟩
  rw [add_none]
  simp only [World.cell?, h2]
  rw [List.getElem?_take] at hj
  split at hj
  · rw [List.getElem?_drop, List.getElem?_take] at hj
    split at hj
    · simpa using hj
    · cases hj
  · cases hj

theorem load_one {i o : Nat} {cs : List Value} {rw_ : Bool} {v : Value} (h : GRep ρ g n w) (hi : g i = some (.row cs rw_)) (hv : cs[o]? = some v) :
    ∃ b cv, ρ i = some b ∧ w.cell? ⟨b, o, none⟩ = some cv ∧ VRel ρ (szOf w) v cv := by
  obtain ⟨b, c, t, fr, h1, h2, h3, hl, hr⟩ := h.cells hi
  obtain ⟨y, hy, hvy⟩ := hr.get hv
  refine ⟨b, y, h1, ?_, hvy⟩
  rw [List.getElem?_take] at hy
  split at hy
  · simp only [World.cell?, h2]; simpa using hy
  · cases hy
end

/-! ### Loads and stores -/
def aLoad (P : Program) (g : AMem) (t : TypeId) : Value → Option Value
  | .pointer (some ⟨b, o, none⟩) => match g b with
    | some (.row cs _) => match tagg P t with
      | some true => match tsize P t with
        | some k => if o + k ≤ cs.length then some (.agg ((cs.drop o).take k).toArray) else none
        | none => none
      | some false => cs[o]?
      | none => none
    | _ => none
  | _ => none
def aStore (P : Program) (g : AMem) (t : TypeId) (v : Value) : Value → Option Eff
  | .pointer (some ⟨b, o, none⟩) => match g b with
    | some (.row cs true) => if tsize P t = some v.cells.size ∧ v.cells.toList.all cellOk = true ∧ o + v.cells.toList.length ≤ cs.length then some (.put b (.row (splice cs o v.cells.toList) true)) else none
    | _ => none
  | _ => none

section
variable {ρ : Nat → Option Nat} {g : AMem} {n : Nat} {w : World} {P : Program}

theorem aLoad_sound {t : TypeId} {a ca v : Value} (h : GRep ρ g n w) (ha : VRel ρ (szOf w) a ca) (hl : aLoad P g t a = some v) :
    ∃ cv, (Instr.loadAt t ca).run P w = .ok cv w ∧ VRel ρ (szOf w) v cv := by
  unfold aLoad at hl
  split at hl
  · rename_i b o
    cases ha with
    | ptr _ _ b' hb =>
    split at hl
    · rename_i cs rw_ hg
      split at hl
      · rename_i hagg
        split at hl
        · rename_i k hk
          split at hl
          · rename_i hok
            cases hl
            obtain ⟨b2, ys, h1, h2, h3, h4⟩ := h.stretch hg hok
            rw [hb] at h1; cases h1
            have hr := run_loadCells_list (P := P) w ⟨b', o, none⟩ ys h4
            rw [h2] at hr
            refine ⟨.agg ys.toArray, ?_, .agg' (by simpa using h3)⟩
            simp [Instr.loadAt, Instr.sureAddr, loadVar, run_isAgg' hagg, run_sizeOf' hk, hr]
          · cases hl
        · cases hl
      · rename_i hagg
        obtain ⟨b2, cv, h1, h2, h3⟩ := load_one h hg hl
        rw [hb] at h1; cases h1
        exact ⟨cv, by simp [Instr.loadAt, Instr.sureAddr, loadVar, run_isAgg' hagg, h2], h3⟩
      · cases hl
    · cases hl
  · cases hl

theorem aStore_sound {t : TypeId} {a ca v cv : Value} {ε : Eff} (h : GRep ρ g n w) (ha : VRel ρ (szOf w) a ca) (hv : VRel ρ (szOf w) v cv) (hl : aStore P g t v a = some ε) :
    ∃ w' ρ', (Instr.storeAt t ca cv).run P w = .ok () w' ∧ Trans ε.touch ρ g n w undef (ε.mem g n) (ε.next n) undef w' ρ' := by
  unfold aStore at hl
  split at hl
  · rename_i b o
    cases ha with
    | ptr _ _ b' hb =>
    split at hl
    · rename_i cs hg
      split at hl
      · rename_i hok
        cases hl
        obtain ⟨hs, hc, ho⟩ := hok
        have hj : v ≠ YtkcahnefekkfaaaAbs.junk := fun e => by subst e; simp [YtkcahnefekkfaaaAbs.junk, Value.cells, cellOk] at hc
        have hcells := hv.cells hj
        obtain ⟨b2, c, ty, fr, h1, h2, h3, hl, hr⟩ := h.cells hg
        rw [hb] at h1; cases h1
        obtain rfl := h3 rfl
        have hlen : v.cells.size = cv.cells.size := by simpa using hcells.len
        have hone : ∀ u ∈ cv.cells.toList, u.oneCell' = true := fun u hu => by
          obtain ⟨i, hi, rfl⟩ := List.getElem_of_mem hu
          have hi' : i < v.cells.toList.length := by rw [hcells.len]; exact hi
          exact cellOk_rel (hcells.at_ i hi' hi) ((List.all_eq_true.1 hc) _ (List.getElem_mem hi'))
        have hfit : o + cv.cells.toList.length ≤ c.size := by simp at ho ⊢; omega
        have hst := run_storeCells_at P b' o ty cv.cells.toList 0 c w h2 (by simpa using hfit) hone
        simp only [Nat.add_zero] at hst
        have hcs : (c.toList.take o ++ cv.cells.toList ++ c.toList.drop (o + cv.cells.toList.length)).toArray.size = c.size := by
          simp at hfit ⊢; omega
        refine ⟨_, ρ, ?_, Trans.put h rfl rfl rfl rfl hg hb h2 hcs (.row _ _ _ _ _ (fun _ => rfl) ?_ ?_) (pureV_rel rfl)⟩
        · simp [Instr.storeAt, Instr.sureAddr, storeVar, run_sizeOf' hs, hlen, hst]
        · rw [hcs, splice_length ho]; exact hl
        · have := hr.splice hcells o
          rw [splice_length ho]
          have e : splice (c.toList.take cs.length) o cv.cells.toList = (c.toList.take o ++ cv.cells.toList ++ c.toList.drop (o + cv.cells.toList.length)).toArray.toList.take cs.length := by
            unfold splice
            simp only [List.append_assoc]
            have e1 : (c.toList.take cs.length).take o = c.toList.take o := by rw [List.take_take]; congr 1; simp at ho; omega
            have e2 : (c.toList.take o).length = o := by simp at hfit ⊢; omega
            rw [e1, List.take_append, e2, List.take_take, List.take_append, List.take_of_length_le (show cv.cells.toList.length ≤ cs.length - o by simp at ho ⊢; omega)]
            congr 1
            · congr 1; simp at ho; omega
            · congr 1
              rw [List.drop_take]
              congr 1
              simp; omega
          rw [← e]; exact this
      · cases hl
    · cases hl
  · cases hl
end
end Go.Proofs.YtkcahnefekkfaaaAbs

namespace Go.Proofs.YtkcahnefekkfaaaAbs
open Go Go.RowKit
variable [Base]

/-! ### Literals -/
def aFill (place : Nat → Option (Nat × Nat)) (cells : List Value) : List (Nat × Value) → Option (List Value)
  | [] => some cells
  | (i, v) :: rest => match place i with
    | none => none
    | some (off, size) => if v.cells.toList.length = size ∧ off + size ≤ cells.length ∧ isJunk v = false then aFill place (splice cells off v.cells.toList) rest else none

theorem foldl_set (off : Nat) : ∀ (vs : List Value) (k : Nat) (cells : Array Value), off + k + vs.length ≤ cells.size →
    ((vs.zipIdx k).foldl (fun cs (x : Value × Nat) => cs.setIfInBounds (off + x.2) x.1) cells).toList = splice cells.toList (off + k) vs
  | [], k, cells, h => by simp [splice]
  | v :: vs, k, cells, h => by
    have h' : off + (k + 1) + vs.length ≤ (cells.setIfInBounds (off + k) v).size := by simp at h ⊢; omega
    rw [List.zipIdx_cons, List.foldl_cons]
    rw [foldl_set off vs (k + 1) _ h']
    unfold splice
    simp only [Array.toList_setIfInBounds, List.length_cons]
    have := list_seg_step cells.toList (off + k) v vs (by simp at h ⊢; omega)
    rw [show off + (k + 1) = off + k + 1 by omega]
    exact this

theorem fill_sound {ρ : Nat → Option Nat} {sz : Nat → Nat} (place : Nat → Option (Nat × Nat)) : ∀ (parts cparts : List (Nat × Value)) (cells ccells out : List Value),
    VRs ρ sz cells ccells → parts.length = cparts.length → (∀ (i : Nat) (h1 : i < parts.length) (h2 : i < cparts.length), parts[i].1 = cparts[i].1 ∧ VRel ρ sz parts[i].2 cparts[i].2) →
    aFill place cells parts = some out → ∃ cout, Instr.fill place ccells.toArray cparts = some cout ∧ VRs ρ sz out cout.toList
  | [], [], cells, ccells, out, hc, _, _, h => by
    simp only [aFill, Option.some.injEq] at h
    subst h
    exact ⟨ccells.toArray, rfl, hc⟩
  | [], _ :: _, _, _, _, _, hl, _, _ => by simp at hl
  | _ :: _, [], _, _, _, _, hl, _, _ => by simp at hl
  | (i, v) :: rest, (j, cv) :: crest, cells, ccells, out, hc, hl, hp, h => by
    obtain ⟨h1, h2⟩ := hp 0 (by simp) (by simp)
    simp only [List.getElem_cons_zero] at h1 h2
    subst h1
    simp only [aFill] at h
    cases hpl : place i with
    | none => simp [hpl] at h
    | some os =>
      obtain ⟨off, size⟩ := os
      simp only [hpl] at h
      split at h
      · rename_i hok
        obtain ⟨e1, e2, e3⟩ := hok
        have hcv := h2.cells (not_junk e3)
        have hl1 : cv.cells.size = size := by have := hcv.len; simp at this e1; omega
        have hfit : off + 0 + cv.cells.toList.length ≤ ccells.toArray.size := by have := hc.len; simp; omega
        have hf := foldl_set off cv.cells.toList 0 ccells.toArray hfit
        have ih := fill_sound place rest crest (splice cells off v.cells.toList) (splice ccells off cv.cells.toList) out (hc.splice hcv off) (by simpa using hl)
          (fun k k1 k2 => by have := hp (k + 1) (by simpa using k1) (by simpa using k2); simpa using this) h
        obtain ⟨cout, ih1, ih2⟩ := ih
        refine ⟨cout, ?_, ih2⟩
        simp only [Instr.fill, hpl]
        have hn : (cv.cells.size ≠ size || off + cv.cells.size > ccells.toArray.size) = false := by
          simp at hfit ⊢; exact ⟨hl1, by omega⟩
        simp only [hn]
        have e : (cv.cells.zipIdx.foldl (fun cs (c, j) => cs.setIfInBounds (off + j) c) ccells.toArray) = (splice ccells off cv.cells.toList).toArray := by
          apply Array.ext'
          rw [← Array.foldl_toList]
          simp only [Array.toList_zipIdx]
          simpa using hf
        simp only [Bool.false_eq_true, if_false]
        rw [e]
        exact ih1
      · cases h

/-- A row of nothing but noughts. -/
def zeroRow (zero : List Value) (k : Nat) : List Value := (List.replicate k zero).flatten
theorem zeroRow_length (zero : List Value) (k : Nat) : (zeroRow zero k).length = k * zero.length := by simp [zeroRow]
theorem zeroRow_succ (zero : List Value) (k : Nat) : zeroRow zero (k + 1) = zero ++ zeroRow zero k := by simp [zeroRow, List.replicate_succ]
theorem zeroRow_eq (zero : Array Value) (k : Nat) : ((Array.range (k * zero.size)).map (fun i => zero[i % zero.size]!)).toList = zeroRow zero.toList k := by
  apply List.ext_getElem?
  intro i
  induction k generalizing i with
  | zero => simp [zeroRow]
  | succ k ih =>
    rw [zeroRow_succ, List.getElem?_append]
    have ih' := fun i => ih i
    simp only [Array.toList_map, Array.toList_range, List.getElem?_map, List.getElem?_range', Array.length_toList] at ih' ⊢
    by_cases h : i < zero.size
    · have h2 : i < (k + 1) * zero.size := by rw [Nat.succ_mul]; omega
      simp [h, h2, Nat.mod_eq_of_lt h]
    · rw [if_neg h]
      have := ih' (i - zero.size)
      rw [← this]
      have hz : zero.size = 0 ∨ 0 < zero.size := by omega
      rcases hz with hz | hz
      · simp [hz]
      · by_cases h2 : i < (k + 1) * zero.size
        · have h3 : i - zero.size < k * zero.size := by rw [Nat.succ_mul] at h2; omega
          simp [h2, h3]
          have : i % zero.size = (i - zero.size) % zero.size := by
            conv => lhs; rw [show i = (i - zero.size) + zero.size by omega]
            simp
          rw [this]
        · have h3 : ¬ i - zero.size < k * zero.size := by rw [Nat.succ_mul] at h2; omega
          simp [h2, h3]

theorem all_flat_rel {ρ : Nat → Option Nat} {sz : Nat → Nat} {xs : List Value} (h : xs.all flatV = true) : VRs ρ sz xs xs :=
  ⟨rfl, fun i h1 h2 => flatV_rel (List.all_eq_true.1 h _ (List.getElem_mem h1))⟩
theorem zeroRow_rel {ρ : Nat → Option Nat} {sz : Nat → Nat} {zero : List Value} (h : zero.all flatV = true) (k : Nat) : VRs ρ sz (zeroRow zero k) (zeroRow zero k) := by
  refine all_flat_rel ?_
  rw [List.all_eq_true] at h ⊢
  intro x hx
  simp only [zeroRow, List.mem_flatten, List.mem_replicate] at hx
  obtain ⟨l, ⟨_, rfl⟩, hx⟩ := hx
  exact h x hx

/-! ### Parts of values -/
def aPart (P : Program) (t : TypeId) (cs : List Value) (off : Nat) : Option Value := match tagg P t with
  | some true => match tsize P t with
    | some k => if off + k ≤ cs.length then some (.agg ((cs.drop off).take k).toArray) else none
    | none => none
  | some false => cs[off]?
  | none => none
theorem aPart_sound {P : Program} {ρ : Nat → Option Nat} {sz : Nat → Nat} {t : TypeId} {cs ccs : List Value} {off : Nat} {v : Value} (hr : VRs ρ sz cs ccs) (h : aPart P t cs off = some v) (w : World) :
    ∃ cv, (part t ccs.toArray off).run P w = .ok cv w ∧ VRel ρ sz v cv := by
  unfold aPart at h
  split at h
  · rename_i hagg
    split at h
    · rename_i k hk
      split at h
      · rename_i hok
        cases h
        refine ⟨.agg (ccs.toArray.extract off (off + k)), by simp [part, run_isAgg' hagg, run_sizeOf' hk], .agg' ?_⟩
        have := (hr.drop off).take k
        have e : (ccs.toArray.extract off (off + k)).toList = (ccs.drop off).take k := by simp [List.extract_eq_take_drop]
        rw [e]; exact this
      · cases h
    · cases h
  · rename_i hagg
    obtain ⟨y, hy, hvy⟩ := hr.get h
    exact ⟨y, by simp [part, run_isAgg' hagg, hy], hvy⟩
  · cases h

def aField (P : Program) (t : TypeId) (i : Nat) : Value → Option Value
  | .agg cs => match P.underlying t with
    | some (.struct fs) => match fs[i]? with
      | some f => aPart P f.type cs.toList f.offset
      | none => none
    | _ => none
  | _ => none
theorem aField_sound {P : Program} {ρ : Nat → Option Nat} {sz : Nat → Nat} {t : TypeId} {i : Nat} {x cx v : Value} (hx : VRel ρ sz x cx) (h : aField P t i x = some v) (w : World) :
    ∃ cv, (Instr.field t cx i).run P w = .ok cv w ∧ VRel ρ sz v cv := by
  unfold aField at h
  split at h
  · obtain ⟨ys, rfl, hys⟩ := hx.agg_inv
    split at h
    · rename_i fs hu
      split at h
      · rename_i f hf
        obtain ⟨cv, h1, h2⟩ := aPart_sound hys h w
        refine ⟨cv, ?_, h2⟩
        simp only [Instr.field, Sem.run_bind, run_underlying hu, Result.andThen_ok, hf, asAgg, Sem.run_pure]
        exact h1
      · cases h
    · cases h
  · cases h

/-! ### Addresses -/
def aFieldAddr (P : Program) (t : TypeId) (i : Nat) : Value → Option Value
  | .pointer (some ⟨b, o, none⟩) => match tfield P t i with
    | some (_, off) => some (.pointer (some ⟨b, o + off, none⟩))
    | none => none
  | _ => none
theorem aFieldAddr_sound {P : Program} {ρ : Nat → Option Nat} {sz : Nat → Nat} {t : TypeId} {i : Nat} {x cx v : Value} (hx : VRel ρ sz x cx) (h : aFieldAddr P t i x = some v) (w : World) :
    ∃ cv, (Instr.fieldAt t cx i).run P w = .ok cv w ∧ VRel ρ sz v cv := by
  unfold aFieldAddr at h
  split at h
  · rename_i b o
    cases hx with
    | ptr _ _ b' hb =>
    split at h
    · rename_i ft off hf
      cases h
      unfold tfield at hf
      split at hf
      · rename_i fs hu
        cases hfi : fs[i]? with
        | none => simp [hfi] at hf
        | some f =>
          simp only [hfi, Option.bind_some] at hf
          split at hf
          · rename_i k hk
            cases hf
            refine ⟨.pointer (some ⟨b', o + f.offset, none⟩), ?_, .ptr _ _ _ hb⟩
            simp [Instr.fieldAt, run_underlying hu, hfi, Instr.sureAddr, fieldPlace, run_sizeOf' hk, add_none]
          · cases hf
      · cases hf
    · cases h
  · cases h

def aIndexAddr (P : Program) (t : TypeId) (x i : Value) : Option Value := match i with
  | .int _ i => match P.underlying t, x with
    | some (.slice el), .slice (some ⟨b, o, none⟩) n e => if tsize P el = some e ∧ 0 ≤ i ∧ i < n then some (.pointer (some ⟨b, o + i.toNat * e, none⟩)) else none
    | some (.array n el), .pointer (some ⟨b, o, none⟩) => match tsize P el with
      | some e => if 0 ≤ i ∧ i < n then some (.pointer (some ⟨b, o + i.toNat * e, none⟩)) else none
      | none => none
    | _, _ => none
  | _ => none
theorem aIndexAddr_sound {P : Program} {ρ : Nat → Option Nat} {sz : Nat → Nat} {t : TypeId} {x cx i ci v : Value} (hx : VRel ρ sz x cx) (hi : VRel ρ sz i ci) (h : aIndexAddr P t x i = some v) (w : World) :
    ∃ cv, (Instr.indexAt t cx ci).run P w = .ok cv w ∧ VRel ρ sz v cv := by
  unfold aIndexAddr at h
  split at h
  · cases hi
    rename_i k i
    split at h
    · rename_i el b o n e hu
      cases hx with
      | sliceLost _ _ _ _ hsp => cases hsp
      | sliceFull _ _ _ hsp => cases hsp
      | slice _ _ _ _ b' c hb hn hc =>
      split at h
      · rename_i hok
        cases h
        obtain ⟨h1, h2, h3⟩ := hok
        refine ⟨.pointer (some ⟨b', o + i.toNat * e, none⟩), ?_, .ptr _ _ _ hb⟩
        simp [Instr.indexAt, asIntOf, run_underlying hu, h2, h3, run_sizeOf' h1, add_none]
      · cases h
    · rename_i n el b o hu
      cases hx with
      | ptr _ _ b' hb =>
      split at h
      · rename_i e he
        split at h
        · rename_i hok
          cases h
          obtain ⟨h2, h3⟩ := hok
          refine ⟨.pointer (some ⟨b', o + i.toNat * e, none⟩), ?_, .ptr _ _ _ hb⟩
          simp [Instr.indexAt, asIntOf, run_underlying hu, Instr.sureAddr, h2, h3, run_sizeOf' he, add_none]
        · cases h
      · cases h
    · cases h
  · cases h

/-! ### Slices of slices -/
def aBound (d : Nat) : Option Value → Option Nat
  | none => some d
  | some (.int _ i) => if 0 ≤ i then some i.toNat else none
  | _ => none
/-- So many cells lie from there on. -/
def rowHas (g : AMem) (b k : Nat) : Bool := match g b with | some (.row cs _) => k ≤ cs.length | _ => false
def aSlice (P : Program) (g : AMem) (t : TypeId) (x : Value) (lo hi mx : Option Value) : Option Value := match P.underlying t, x with
  | some (.slice el), .slice (some ⟨b, o, none⟩) n e =>
    if tsize P el = some e then match aBound 0 lo, aBound n hi with
      | some l, some h => if l ≤ h ∧ h ≤ n then match mx with
          | none => if l < n ∨ l = 0 then some (.slice (some ⟨b, o + l * e, none⟩) (h - l) e) else some (.slice (some ⟨b, o, some 0⟩) 0 e)
          | some (.int _ m) => if 0 ≤ m ∧ m = l ∧ h = l ∧ hi ≠ none then some (.slice (some ⟨b, o, some 1⟩) 0 e) else none
          | _ => none
        else none
      | _, _ => none
    else none
  | some (.slice el), .slice none 0 0 => if (tsize P el).isSome = true ∧ aBound 0 lo = some 0 ∧ aBound 0 hi = some 0 ∧ mx = none then some (.slice none 0 0) else none
  | some (.array n el), .pointer (some ⟨b, o, none⟩) => match tsize P el, aBound 0 lo, aBound n hi, mx with
    | some e, some l, some h, none => if l ≤ h ∧ h ≤ n ∧ l < n ∧ rowHas g b (o + n * e) = true then some (.slice (some ⟨b, o + l * e, none⟩) (h - l) e) else none
    | _, _, _, _ => none
  | _, _ => none

/-- A bound that is given, in the machine. -/
theorem aBound_run {P : Program} {ρ : Nat → Option Nat} {sz : Nat → Nat} {d l y : Nat} {x : Value} {cx : Value} (hr : VRel ρ sz x cx) (h : aBound d (some x) = some l) (hl : l ≤ y) (code : BoundsCode) (w : World) :
    (Instr.sliceBound cx y code).run P w = .ok l w := by
  unfold aBound at h
  split at h
  · simp at *
  · rename_i k i he
    cases he
    cases hr
    split at h
    · rename_i h0
      cases h
      simp [Instr.sliceBound, asIntOf, h0, show i ≤ (y : Int) by omega]
    · cases h
  · cases h
/-- What a bound that may be lacking comes to. -/
inductive ORelV (ρ : Nat → Option Nat) (sz : Nat → Nat) : Option Value → Option Value → Prop
  | none : ORelV ρ sz none none
  | some (x cx : Value) (h : VRel ρ sz x cx) : ORelV ρ sz (some x) (some cx)
theorem sliceBounds_run {P : Program} {ρ : Nat → Option Nat} {sz : Nat → Nat} {lo hi clo chi : Option Value} {n cap l h : Nat} (isS : Bool) (h1 : ORelV ρ sz lo clo) (h2 : ORelV ρ sz hi chi) (hl : aBound 0 lo = some l) (hh : aBound n hi = some h)
    (hlh : l ≤ h) (hhn : h ≤ n) (hn : n ≤ cap) (w : World) : (Instr.sliceBounds isS n cap clo chi none).run P w = .ok (l, h, cap) w := by
  cases h2 with
  | none =>
    simp only [aBound, Option.some.injEq] at hh
    subst hh
    cases h1 with
    | none => simp only [aBound, Option.some.injEq] at hl; subst hl; simp [Instr.sliceBounds]
    | some x cx hx => simp [Instr.sliceBounds, aBound_run hx hl hlh]
  | some y cy hy =>
    have hb := fun code => aBound_run (P := P) hy hh (show h ≤ cap by omega) code w
    cases h1 with
    | none => simp only [aBound, Option.some.injEq] at hl; subst hl; simp [Instr.sliceBounds, hb]
    | some x cx hx => simp [Instr.sliceBounds, hb, aBound_run hx hl hlh]
theorem sliceBounds_run3 {P : Program} {ρ : Nat → Option Nat} {sz : Nat → Nat} {lo clo : Option Value} {y cy : Value} {k : IntKind} {m : Int} {n cap l : Nat} (h1 : ORelV ρ sz lo clo) (h2 : VRel ρ sz y cy) (hl : aBound 0 lo = some l) (hh : aBound n (some y) = some l)
    (hm : m = l) (hn : l ≤ cap) (w : World) : (Instr.sliceBounds true n cap clo (some cy) (some (.int k m))).run P w = .ok (l, l, l) w := by
  subst hm
  have hb := fun code => aBound_run (P := P) h2 hh (Nat.le_refl l) code w
  have hm : ∀ code, (Instr.sliceBound (.int k (l : Int)) cap code).run P w = .ok l w := fun code => by simp [Instr.sliceBound, asIntOf, hn]
  cases h1 with
  | none => simp only [aBound, Option.some.injEq] at hl; subst hl; simp only [Instr.sliceBounds, Sem.run_bind, hm, Result.andThen_ok, if_true, hb, Sem.run_pure]
  | some x cx hx => simp [Instr.sliceBounds, hb, hm, aBound_run hx hl (Nat.le_refl l)]

theorem aSlice_sound {P : Program} {ρ : Nat → Option Nat} {g : AMem} {nn : Nat} {w : World} {t : TypeId} {x cx v : Value} {lo hi mx clo chi cmx : Option Value} (h1 : ORelV ρ (szOf w) lo clo) (h2 : ORelV ρ (szOf w) hi chi) (h3 : ORelV ρ (szOf w) mx cmx)
    (hx : VRel ρ (szOf w) x cx) (hrep : GRep ρ g nn w) (h : aSlice P g t x lo hi mx = some v) :
    ∃ cv, (Instr.sliceAt t cx clo chi cmx).run P w = .ok cv w ∧ VRel ρ (szOf w) v cv := by
  unfold aSlice at h
  split at h
  · rename_i el b o n e hu
    cases hx with
    | sliceLost _ _ _ _ hsp => cases hsp
    | sliceFull _ _ _ hsp => cases hsp
    | slice _ _ _ _ b' c hb hn hc =>
    split at h
    · rename_i he
      split at h
      · rename_i l hh hl hhh
        split at h
        · rename_i hok
          obtain ⟨hlh, hhn⟩ := hok
          split at h
          · cases h3
            have hr := sliceBounds_run (P := P) true h1 h2 hl hhh hlh hhn hn w
            have hrun : (Instr.sliceAt t (.slice (some ⟨b', o, none⟩) n c) clo chi none).run P w = .ok (.slice (if c = l then some ⟨b', o, none⟩ else (some ⟨b', o, none⟩ : Option Addr).map (·.add (l * e))) (hh - l) (c - l)) w := by
              simp [Instr.sliceAt, run_underlying hu, Instr.slice, hr, run_sizeOf' he]
            split at h
            · rename_i hcond
              cases h
              have hsp : (if c = l then some (⟨b', o, none⟩ : Addr) else (some ⟨b', o, none⟩ : Option Addr).map (·.add (l * e))) = some ⟨b', o + l * e, none⟩ := by
                by_cases hcl : c = l
                · rw [if_pos hcl]
                  have : l = 0 := by omega
                  simp [this]
                · rw [if_neg hcl]; simp [add_none]
              rw [hsp] at hrun
              refine ⟨_, hrun, .slice _ _ _ _ _ _ hb (by omega) ?_⟩
              have hmul : l * e + (c - l) * e = c * e := by rw [← Nat.add_mul]; congr 1; omega
              omega
            · rename_i hcond
              cases h
              have h0 : hh - l = 0 := by omega
              rw [h0] at hrun
              have hsome : ∃ a', (if c = l then some (⟨b', o, none⟩ : Addr) else (some ⟨b', o, none⟩ : Option Addr).map (·.add (l * e))) = some a' := by
                by_cases hcl : c = l
                · exact ⟨_, if_pos hcl⟩
                · exact ⟨_, if_neg hcl⟩
              obtain ⟨a', ha'⟩ := hsome
              rw [ha'] at hrun
              exact ⟨_, hrun, .sliceLost _ _ _ _ rfl⟩
          · rename_i k m
            cases h3 with
            | some _ _ hm =>
            cases hm
            split at h
            · rename_i hcond
              cases h
              obtain ⟨hm0, hml, hhl, hhi⟩ := hcond
              subst hhl
              cases h2 with
              | none => exact absurd rfl hhi
              | some y cy hy =>
              have hr := sliceBounds_run3 (P := P) (k := k) h1 hy hl hhh hml (show hh ≤ c by omega) w
              refine ⟨.slice (some ⟨b', o, none⟩) 0 0, ?_, .sliceFull _ _ _ rfl⟩
              simp [Instr.sliceAt, run_underlying hu, Instr.slice, hr, run_sizeOf' he]
            · cases h
          · cases h
        · cases h
      · cases h
    · cases h
  · rename_i el hu
    split at h
    · rename_i hok
      obtain ⟨he, hl, hhh, rfl⟩ := hok
      cases h
      cases hx
      cases h3
      obtain ⟨e, he⟩ := Option.isSome_iff_exists.1 he
      have hr := sliceBounds_run (P := P) true h1 h2 hl hhh (Nat.le_refl 0) (Nat.le_refl 0) (Nat.le_refl 0) w
      exact ⟨.slice none 0 0, by simp [Instr.sliceAt, run_underlying hu, Instr.slice, hr, run_sizeOf' he], .sliceNil⟩
    · cases h
  · rename_i n el b o hu
    cases hx with
    | ptr _ _ b' hb =>
    split at h
    · rename_i e l hh he hl hhh
      cases h3
      split at h
      · rename_i hok
        obtain ⟨hlh, hhn, hln, hroom⟩ := hok
        cases h
        have hrow : o + n * e ≤ szOf w b' := by
          unfold rowHas at hroom
          split at hroom
          · rename_i cs rw_ hg
            obtain ⟨b2, c, ty, fr, e1, e2, e3, e4, e5⟩ := hrep.cells hg
            rw [hb] at e1; cases e1
            simp only [decide_eq_true_eq] at hroom
            simp only [szOf, e2]
            omega
          · cases hroom
        have hr := sliceBounds_run (P := P) false h1 h2 hl hhh hlh hhn (Nat.le_refl n) w
        have hne : ¬ n = l := by omega
        refine ⟨.slice (some ⟨b', o + l * e, none⟩) (hh - l) (n - l), ?_, .slice _ _ _ _ _ _ hb (by omega) ?_⟩
        · simp [Instr.sliceAt, run_underlying hu, Instr.sureAddr, hr, run_sizeOf' he, hne, add_none]
        · have hmul : l * e + (n - l) * e = n * e := by rw [← Nat.add_mul]; congr 1; omega
          omega
      · cases h
    · cases h
  · cases h
end Go.Proofs.YtkcahnefekkfaaaAbs

namespace Go.Proofs.YtkcahnefekkfaaaAbs
open Go Go.RowKit
variable [Base]

/-- What an operation comes to. -/
def OpDoes (P : Program) (ρ : Nat → Option Nat) (g : AMem) (n : Nat) (w : World) (s : Sem Next) (v : Value) (ε : Eff) : Prop :=
  ∃ r cv w' ρ', s.run P w = .ok r w' ∧ (r = .value cv ∨ r = .skip ∧ cv = undef) ∧ Trans ε.touch ρ g n w v (ε.mem g n) (ε.next n) cv w' ρ'

section
variable {P : Program} {ρ : Nat → Option Nat} {g : AMem} {n : Nat} {w : World}
theorem OpDoes.val {s : Sem Next} {v cv : Value} (h : GRep ρ g n w) (hs : s.run P w = .ok (.value cv) w) (hv : VRel ρ (szOf w) v cv) : OpDoes P ρ g n w s v .none :=
  ⟨_, cv, w, ρ, hs, .inl rfl, Trans.stay h hv rfl rfl rfl rfl⟩

/-! ### Lists of cells of a slice that is read -/
/-- The cells of a slice's elements; the slice's elements take 'e' cells. -/
def aRead (g : AMem) (e : Nat) : Value → Option (Nat × List Value)
  | .slice none 0 0 => some (0, [])
  | .slice (some a) m e' => if m = 0 then some (0, []) else if a.spot = none ∧ e' = e then match g a.block with
      | some (.row cs _) => if a.off + m * e ≤ cs.length then some (m, (cs.drop a.off).take (m * e)) else none
      | _ => none
    else none
  | _ => none
theorem aRead_sound {e : Nat} {x cx : Value} {m : Nat} {xs : List Value} (h : GRep ρ g n w) (hx : VRel ρ (szOf w) x cx) (hr : aRead g e x = some (m, xs)) :
    ∃ ys, xs.length = m * e ∧ VRs ρ (szOf w) xs ys ∧ ((cx = .slice none 0 0 ∧ m = 0) ∨ ∃ a c, cx = .slice (some a) m c ∧ ∀ j v, ys[j]? = some v → w.cell? (a.add j) = some v) := by
  unfold aRead at hr
  split at hr
  · cases hx
    cases hr
    exact ⟨[], by simp, .nil _ _, .inl ⟨rfl, rfl⟩⟩
  · rename_i a m' e'
    split at hr
    · rename_i hm
      cases hr
      subst hm
      cases hx with
      | slice b o _ _ b' c h1 h2 h3 => exact ⟨[], by simp, .nil _ _, .inr ⟨_, c, rfl, fun j v hj => by simp at hj⟩⟩
      | sliceLost _ a' _ c h1 => exact ⟨[], by simp, .nil _ _, .inr ⟨_, c, rfl, fun j v hj => by simp at hj⟩⟩
      | sliceFull _ a' _ h1 => exact ⟨[], by simp, .nil _ _, .inr ⟨_, 0, rfl, fun j v hj => by simp at hj⟩⟩
    · rename_i hm
      split at hr
      · rename_i hcond
        obtain ⟨hsp, he⟩ := hcond
        split at hr
        · rename_i cs rw_ hg
          split at hr
          · rename_i hok
            cases hr
            cases hx with
            | slice b o _ _ b' c h1 h2 h3 =>
              obtain ⟨b2, ys, e1, e2, e3, e4⟩ := h.stretch hg hok
              rw [h1] at e1; cases e1
              exact ⟨ys, by rw [e3.len, e2], e3, .inr ⟨_, c, rfl, e4⟩⟩
            | sliceLost _ a' _ c h1 => exact absurd rfl hm
            | sliceFull _ a' _ h1 => exact absurd rfl hm
          · cases hr
        · cases hr
      · cases hr
  · cases hr

/-! ### append -/
def aAppend (P : Program) (g : AMem) (n : Nat) (t : TypeId) (s x : Value) : Option (Value × Eff) :=
  match P.underlying t with
  | some (.slice el) => match tsize P el, tbytes P el, tzero P el with
    | some (e + 1), some by_, some z => if z.cells.size = e + 1 then match aRead g (e + 1) x with
      | some (m, xs) =>
        if m = 0 then match s with
          | .slice _ _ _ => some (s, .none)
          | _ => none
        else if xs.all cellOk = true then match s with
          | .slice none 0 0 => if m * by_ ≤ 70368744177664 ∧ m ≤ 70368744177664 then some (.slice (some ⟨n, 0, none⟩) m (e + 1), .new (.row xs true)) else none
          | .slice (some ⟨b, 0, none⟩) k e' => if e' = e + 1 ∧ (k + m) * by_ ≤ 70368744177664 ∧ k + m ≤ 70368744177664 then match g b with
              | some (.row cs true) => if cs.length = k * (e + 1) then some (.slice (some ⟨n, 0, none⟩) (k + m) (e + 1), .move b (.row (cs ++ xs) true)) else none
              | _ => none
            else none
          | .slice (some ⟨_, _, some 1⟩) 0 _ => if m * by_ ≤ 70368744177664 ∧ m ≤ 70368744177664 then some (.slice (some ⟨n, 0, none⟩) m (e + 1), .new (.row xs true)) else none
          | _ => none
        else none
      | none => none
      else none
    | _, _, _ => none
  | _ => none

theorem szOf_at {b : Nat} {c : Array Value} {t : TypeId} {fr : Nat × Nat} (h : w.heap[b]? = some (.cells c t fr)) : szOf w b = c.size := by simp [szOf, h]
theorem szOf_alloc_new (w : World) (c : Array Value) (t : TypeId) (fr : Nat × Nat) : szOf (w.alloc (.cells c t fr)) w.heap.size = c.size := by unfold szOf; rw [alloc_new]

theorem cellOk_all {xs ys : List Value} {sz : Nat → Nat} (h : VRs ρ sz xs ys) (hc : xs.all cellOk = true) : ∀ u ∈ ys, u.oneCell' = true := fun u hu => by
  obtain ⟨i, hi, rfl⟩ := List.getElem_of_mem hu
  have hi' : i < xs.length := by rw [h.len]; exact hi
  exact cellOk_rel (h.at_ i hi' hi) ((List.all_eq_true.1 hc) _ (List.getElem_mem hi'))

/-- A new row, its first cells as told, with a slice over them. -/
theorem new_row {t : Nat → Prop} {w1 : World} (h : GRep ρ g n w) (hh : w1.heap = w.heap) (h1 : w1.os = w.os) (h2 : w1.tape = w.tape) (h3 : w1.output = w.output)
    {xs ys : List Value} {c : Array Value} {ty : TypeId} {e m cap : Nat} (hr : VRs ρ (szOf w) xs ys) (hc : c.toList.take xs.length = ys) (hl : xs.length ≤ c.size) (hm : m ≤ cap) (hcap : cap * e ≤ c.size) :
    Trans t ρ g n w (.slice (some ⟨n, 0, none⟩) m e) (gset g n (some (.row xs true))) (n + 1) (.slice (some ⟨w.heap.size, 0, none⟩) m cap) (w1.alloc (.cells c ty)) (rset ρ n w.heap.size) := by
  have hs : w1.heap.size = w.heap.size := by rw [hh]
  refine Trans.new h hh h1 h2 h3 (.row _ _ _ _ _ (fun _ => rfl) hl (by rw [hc]; exact hr)) (.slice _ _ _ _ _ _ (if_pos rfl) hm ?_)
  rw [← hs, szOf_alloc_new]
  omega

theorem run_append_zero {t ty el : TypeId} {k : Nat} (ht : P.underlying t = some (.slice el)) (hk : tsize P el = some k) (a : Option Addr) (sl sc : Nat) (hle : sl ≤ sc) (b : Option Addr) (c : Nat) :
    (Builtin.append_ #[t, t] ty #[.slice a sl sc, .slice b 0 c]).run P w = .ok (.slice a sl sc) w := by
  unfold tsize at hk
  cases hi : P.info? el with
  | none => simp [hi] at hk
  | some i =>
    cases a <;> cases b <;> simp [Builtin.append_, run_underlying ht, sizeOf, typeInfo, hi, Builtin.lenOf, hle, Builtin.firstCells, loadCells, loadCellsFrom, storeCells]

set_option maxHeartbeats 1000000 in
theorem aAppend_sound {t ty : TypeId} {s cs x cx v : Value} {ε : Eff} (h : GRep ρ g n w) (hs : VRel ρ (szOf w) s cs) (hx : VRel ρ (szOf w) x cx) (ha : aAppend P g n t s x = some (v, ε)) :
    ∃ cv w' ρ', (Builtin.append_ #[t, t] ty #[cs, cx]).run P w = .ok cv w' ∧ Trans ε.touch ρ g n w v (ε.mem g n) (ε.next n) cv w' ρ' := by
  unfold aAppend at ha
  split at ha
  case h_2 => cases ha
  rename_i el hu
  split at ha
  case h_2 => cases ha
  rename_i e by_ z hsz hby hz
  split at ha
  case isFalse => cases ha
  rename_i hzs
  split at ha
  case h_2 => cases ha
  rename_i m xs hrd
  obtain ⟨ys, hxl, hxy, hcx⟩ := aRead_sound h hx hrd
  obtain ⟨i, hi, hi1, hi2, hi3⟩ : ∃ i, P.info? el = some i ∧ i.size = e + 1 ∧ i.bytes = by_ ∧ i.zero = some z := by
    unfold tsize at hsz; unfold tbytes at hby; unfold tzero at hz
    cases hi : P.info? el with
    | none => simp [hi] at hsz
    | some i => simp [hi] at hsz hby hz; exact ⟨i, rfl, hsz, hby, hz⟩
  split at ha
  · rename_i hm
    subst hm
    split at ha
    case h_2 => cases ha
    cases ha
    have hcx' : ∃ b c, cx = .slice b 0 c := by
      rcases hcx with ⟨rfl, _⟩ | ⟨a, c, rfl, _⟩ <;> exact ⟨_, _, rfl⟩
    obtain ⟨bb, cc, rfl⟩ := hcx'
    have hcs : ∃ a sl sc, cs = .slice a sl sc ∧ sl ≤ sc := by
      cases hs with
      | sliceNil => exact ⟨_, _, _, rfl, Nat.le_refl _⟩
      | slice b o n e b' c h1 h2 h3 => exact ⟨_, _, _, rfl, h2⟩
      | sliceLost a a' e c h1 => exact ⟨_, _, _, rfl, Nat.zero_le _⟩
      | sliceFull a a' e h1 => exact ⟨_, _, _, rfl, Nat.zero_le _⟩
    obtain ⟨a, sl, sc, rfl, hle⟩ := hcs
    exact ⟨_, w, ρ, run_append_zero hu hsz a sl sc hle bb cc, Trans.stay h hs rfl rfl rfl rfl⟩
  rename_i hm
  rcases hcx with ⟨_, h0⟩ | ⟨a, c, rfl, hcells⟩
  · exact absurd h0 hm
  split at ha
  case isFalse => cases ha
  rename_i hcok
  have hyl : ys.length = m * i.size := by rw [← hxy.len, hxl, hi1]
  have hone := cellOk_all hxy hcok
  split at ha
  · -- nil
    split at ha
    case isFalse => cases ha
    rename_i hb
    cases ha
    cases hs
    have hr := run_append_nil (P := P) w t ty el i z hu hi hi3 a m c ys hyl hcells (by omega) (by omega) (by rw [hi2]; omega)
    refine ⟨_, _, rset ρ n w.heap.size, hr, ?_⟩
    have hge := grownCap_ge w m 0 el
    refine new_row (w1 := w.drew) h rfl rfl rfl rfl hxy ?_ ?_ hge ?_
    · rw [hxy.len]; simp
    · rw [hxy.len]; simp
    · simp only [Array.size_append, List.size_toArray, size_zeroCells, hzs, hyl, hi1, ← Nat.add_mul]
      exact Nat.mul_le_mul_right _ (by omega)
  · -- a row of one's own
    rename_i b k e'
    split at ha
    case isFalse => cases ha
    rename_i hb
    obtain ⟨he, hb1, hb2⟩ := hb
    split at ha
    case h_2 => cases ha
    rename_i cs0 hg
    split at ha
    case isFalse => cases ha
    rename_i hlen
    cases ha
    subst he
    obtain ⟨b2, cur, ty0, fr, e1, e2, e3, e4, e5⟩ := h.cells hg
    obtain rfl := e3 rfl
    cases hs with
    | sliceLost _ _ _ _ h1 => cases h1
    | sliceFull _ _ _ h1 => cases h1
    | slice _ _ _ _ b' sc h1 h2 h3 =>
    rw [h1] at e1; cases e1
    rw [szOf_at e2] at h3
    have hold : (cur.toList.take cs0.length).length = k * i.size := by rw [hi1, ← hlen]; simp; omega
    have hcellsold : ∀ j v, (cur.toList.take cs0.length)[j]? = some v → w.cell? ((⟨b2, 0, none⟩ : Addr).add j) = some v := fun j v hj => by
      rw [add_none]
      simp only [World.cell?, e2, Nat.zero_add]
      rw [List.getElem?_take] at hj
      split at hj
      · simpa using hj
      · cases hj
    have hxs : (cs0 ++ xs).length = (k + m) * (e + 1) := by rw [List.length_append, hlen, hxl, Nat.add_mul]
    by_cases hroom : k + m ≤ sc
    · have hfit : k * (e + 1) + ys.length ≤ cur.size := by
        have : (k + m) * (e + 1) ≤ sc * (e + 1) := Nat.mul_le_mul_right _ hroom
        rw [Nat.add_mul] at this
        rw [hyl, hi1]; omega
      have hf := run_firstCells_some (P := P) w i.size m a m c ys hyl hcells
      have hst := run_storeCells_at P b2 (k * i.size) ty0 ys 0 cur w e2 (by rw [hi1]; simpa using hfit) hone
      simp only [Nat.add_zero] at hst
      refine ⟨.slice (some ⟨b2, 0, none⟩) (k + m) sc, w.setRow b2 (cur.toList.take (k * i.size) ++ ys ++ cur.toList.drop (k * i.size + ys.length)).toArray, rset ρ n b2, ?_, Trans.move h hg h1 e2 ?_ (.row _ _ _ _ _ (fun _ => rfl) ?_ ?_) (.slice _ _ _ _ _ _ (if_pos rfl) hroom ?_)⟩
      · simp [Builtin.append_, run_underlying hu, sizeOf, typeInfo, hi, Builtin.lenOf, hroom, hf, add_none, hst]
      · simp only [List.size_toArray, List.length_append, List.length_take, List.length_drop, Array.length_toList]
        rw [hi1]; omega
      · simp only [List.size_toArray, List.length_append, List.length_take, List.length_drop, Array.length_toList]
        rw [hi1, hlen, hxl]; rw [hyl, hi1] at hfit ⊢; omega
      · have hap := e5.append hxy
        rw [hxs]
        have e : (cur.toList.take cs0.length ++ ys) = List.take ((k + m) * (e + 1)) (cur.toList.take (k * i.size) ++ ys ++ cur.toList.drop (k * i.size + ys.length)) := by
          have hl1 : (cur.toList.take cs0.length ++ ys).length = (k + m) * (e + 1) := by
            rw [List.length_append, hold, hyl, hi1, Nat.add_mul]
          rw [← hl1]
          have hk : k * i.size = cs0.length := by rw [hi1, hlen]
          rw [hk]
          exact (List.take_left).symm
        simp only [List.toList_toArray]
        rw [← e]; exact hap
      · rw [szOf_at e2]; exact h3
    · have hr := run_append_grow (P := P) w t ty el i z hu hi hi3 ⟨b2, 0, none⟩ k sc (cur.toList.take cs0.length) hold hcellsold a m c ys hyl hcells (by omega) (by omega)
        (growslice_fits (by omega) (by rw [hi2]; omega))
      have hge := grownCap_ge w (k + m) sc el
      refine ⟨_, _, rset ρ n w.heap.size, hr, ?_⟩
      have hap := e5.append hxy
      have T := new_row (t := fun j => j = b) (ty := el) (e := e + 1) (w1 := w.drew) (c := ((cur.toList.take cs0.length).toArray ++ ys.toArray ++ Builtin.zeroCells z.cells (grownCap w (k + m) sc el - (k + m)))) h rfl rfl rfl rfl hap (by
          rw [hap.len]; simp only [Array.toList_append, List.toList_toArray]; exact List.take_left) (by
          rw [hap.len]; simp) hge (by
          simp only [Array.size_append, List.size_toArray, size_zeroCells, hzs, hold, hyl, hi1, ← Nat.add_mul]
          exact Nat.mul_le_mul_right _ (by omega))
      have hgn : b < n := h.ltg hg
      refine ⟨T.val, ⟨?_, ?_, T.rep.dom, T.rep.old⟩, T.le, T.ext, T.frame, T.fresh, ?_⟩
      · intro j o hj
        refine T.rep.obj j o ?_
        by_cases ej : j = n
        · subst ej; simpa [Eff.mem, gset] using hj
        · simp only [Eff.mem, gset_ne _ _ ej] at hj ⊢
          by_cases ej' : j = b
          · subst ej'; rw [gset_same] at hj; cases hj
          · rwa [gset_ne _ _ ej'] at hj
      · have sub : ∀ j, Eff.mem g n (.move b (.row (cs0 ++ xs) true)) j ≠ none → gset g n (some (.row (cs0 ++ xs) true)) j ≠ none := fun j hj => by
          by_cases ej : j = n
          · subst ej; rw [gset_same]; simp
          · simp only [Eff.mem, gset_ne _ _ ej] at hj ⊢
            by_cases ej' : j = b
            · subst ej'; rw [gset_same] at hj; exact absurd rfl hj
            · rwa [gset_ne _ _ ej'] at hj
        exact fun i j b hi hj => T.rep.inj i j b (sub i hi) (sub j hj)
      · intro j hj hn
        simp only [Eff.mem, gset_ne _ _ (show j ≠ n by omega)]
        by_cases ej' : j = b
        · subst ej'; rw [gset_same]
        · rw [gset_ne _ _ ej']; exact hn
  · -- a slice without room
    rename_i _ b0 o0 e'
    split at ha
    case isFalse => cases ha
    rename_i hb
    cases ha
    cases hs with
    | sliceLost _ _ _ _ h1 => cases h1
    | sliceFull _ a' _ h1 =>
    have hr := run_append_grow (P := P) w t ty el i z hu hi hi3 a' 0 0 [] (by simp) (fun j v hj => by simp at hj) a m c ys hyl hcells (by omega) (by omega)
      (growslice_fits (by omega) (by rw [hi2]; simpa using (by omega : m * by_ ≤ 140737488355328)))
    simp only [Nat.zero_add] at hr
    refine ⟨_, _, rset ρ n w.heap.size, hr, ?_⟩
    have hge := grownCap_ge w m 0 el
    refine new_row (w1 := w.drew) h rfl rfl rfl rfl hxy ?_ ?_ hge ?_
    · rw [hxy.len]; simp
    · rw [hxy.len]; simp
    · simp only [Array.size_append, List.size_toArray, size_zeroCells, hzs, hyl, hi1, ← Nat.add_mul, List.length_nil, Nat.zero_add]
      exact Nat.mul_le_mul_right _ (by omega)
  · cases ha
end
end Go.Proofs.YtkcahnefekkfaaaAbs

namespace Go.Proofs.YtkcahnefekkfaaaAbs
open Go Go.RowKit
variable [Base]

theorem flat_eq {ρ : Nat → Option Nat} {sz : Nat → Nat} {v cv : Value} (h : VRel ρ sz v cv) (hf : flatV v = true) : cv = v := by
  cases h <;> first | rfl | (simp [flatV, YtkcahnefekkfaaaAbs.junk] at hf)
theorem flat_list_eq {ρ : Nat → Option Nat} {sz : Nat → Nat} {xs ys : List Value} (h : VRs ρ sz xs ys) (hf : xs.all flatV = true) : ys = xs := by
  apply List.ext_getElem h.len.symm
  intro i h1 h2
  exact flat_eq (h.at_ i h2 h1) (List.all_eq_true.1 hf _ (List.getElem_mem h2))
theorem pure_eq {ρ : Nat → Option Nat} {sz : Nat → Nat} {v cv : Value} (h : VRel ρ sz v cv) (hf : pureV v = true) : cv = v := by
  unfold pureV at hf
  split at hf
  · obtain ⟨ys, rfl, hys⟩ := h.agg_inv
    have := flat_list_eq hys hf
    congr 1
    exact Array.ext' this
  · obtain ⟨ys, rfl, hys⟩ := h.tuple_inv
    have := flat_list_eq hys hf
    congr 1
    exact Array.ext' this
  · simp at hf
    obtain ⟨rfl, rfl⟩ := hf
    cases h with
    | func _ _ _ xs' ys' h1 h2 h3 h4 =>
      have e1 : xs' = #[] := by simpa using h1.symm
      have e2 : ys' = #[] := by simpa using h2.symm
      rw [e1, e2]
  · exact flat_eq h hf

/-! ### Comparisons -/
def aNil (P : Program) (t : TypeId) (x y : Value) : Option Bool := match P.underlying t, x, y with
  | some (.slice _), .slice a _ _, .slice none 0 0 => some a.isNone
  | some (.pointer _), .pointer a, .pointer none => some a.isNone
  | some (.interface _), .iface _ _, .nilIface => some false
  | some (.func _ _ _), .func _ _ _, .nilFunc => some false
  | _, _, _ => none
/-- What a thing that asks the program alone comes to, if it holds no address. -/
def pureFlat (P : Program) (s : Sem Value) : Option Value := match Sem.pureRun P s with
  | some v => if pureV v = true then some v else none
  | none => none
theorem pureFlat_run {P : Program} {s : Sem Value} {v : Value} (h : pureFlat P s = some v) (w : World) : s.run P w = .ok v w ∧ pureV v = true := by
  unfold pureFlat at h
  split at h
  · rename_i u hu
    split at h
    · cases h; rename_i hv; exact ⟨Sem.pureRun_run hu w, hv⟩
    · cases h
  · cases h
def aBin (P : Program) (op : BinOp) (t : TypeId) (xo yo : Operand) (x y : Value) : Option Value :=
  if pureV x = true ∧ pureV y = true then pureFlat P (do eqGuard op t xo yo x y; binOp op t x y)
  else match op with
    | .eql => (aNil P t x y).map .bool
    | .neq => (aNil P t x y).map fun b => .bool !b
    | _ => none
theorem equal_unf (t : TypeId) (x y : Value) : Op.equal t x y = Op.equalIn (9999 + 1) t x y := rfl
theorem aNil_sound {P : Program} {ρ : Nat → Option Nat} {sz : Nat → Nat} {t : TypeId} {x y cx cy : Value} {b : Bool} (hx : VRel ρ sz x cx) (hy : VRel ρ sz y cy) (h : aNil P t x y = some b) (w : World) :
    (Op.equal t cx cy).run P w = .ok b w ∧ (∀ op xo yo, (eqGuard op t xo yo cx cy).run P w = .ok () w) ∧ (∀ op, op = .eql ∨ op = .neq → binOp op t cx cy = (if op = .eql then do pure (.bool (← Op.equal t cx cy)) else do pure (.bool (!(← Op.equal t cx cy))))) := by
  unfold aNil at h
  split at h
  · rename_i hu
    cases h
    cases hy
    cases hx <;> refine ⟨by rw [equal_unf]; unfold Op.equalIn; simp [run_underlying hu], fun op xo yo => by cases op <;> simp [eqGuard], fun op hop => by rcases hop with rfl | rfl <;> simp [binOp]⟩
  · rename_i hu
    cases h
    cases hy
    cases hx <;> refine ⟨by rw [equal_unf]; unfold Op.equalIn; simp [run_underlying hu], fun op xo yo => by cases op <;> simp [eqGuard], fun op hop => by rcases hop with rfl | rfl <;> simp [binOp]⟩
  · rename_i hu
    cases h
    cases hy
    cases hx <;> refine ⟨by rw [equal_unf]; unfold Op.equalIn; simp [run_underlying hu], fun op xo yo => by cases op <;> simp [eqGuard], fun op hop => by rcases hop with rfl | rfl <;> simp [binOp]⟩
  · rename_i hu
    cases h
    cases hy
    cases hx <;> refine ⟨by rw [equal_unf]; unfold Op.equalIn; simp [run_underlying hu], fun op xo yo => by cases op <;> simp [eqGuard], fun op hop => by rcases hop with rfl | rfl <;> simp [binOp]⟩
  · cases h
theorem aBin_sound {P : Program} {ρ : Nat → Option Nat} {sz : Nat → Nat} {op : BinOp} {t : TypeId} {xo yo : Operand} {x y cx cy v : Value} (hx : VRel ρ sz x cx) (hy : VRel ρ sz y cy) (h : aBin P op t xo yo x y = some v) (w : World) :
    (do eqGuard op t xo yo cx cy; binOp op t cx cy : Sem Value).run P w = .ok v w ∧ VRel ρ sz v v := by
  unfold aBin at h
  split at h
  · rename_i hp
    have e1 := pure_eq hx hp.1
    have e2 := pure_eq hy hp.2
    subst e1 e2
    obtain ⟨h1, h2⟩ := pureFlat_run h w
    exact ⟨h1, pureV_rel h2⟩
  · split at h
    · simp only [Option.map_eq_some_iff] at h
      obtain ⟨b, hb, rfl⟩ := h
      obtain ⟨h1, h2, h3⟩ := aNil_sound hx hy hb w
      exact ⟨by simp [h2, h3, h1], .bool _⟩
    · simp only [Option.map_eq_some_iff] at h
      obtain ⟨b, hb, rfl⟩ := h
      obtain ⟨h1, h2, h3⟩ := aNil_sound hx hy hb w
      exact ⟨by simp [h2, h3, h1], .bool _⟩
    · cases h
end Go.Proofs.YtkcahnefekkfaaaAbs

namespace Go.Proofs.YtkcahnefekkfaaaAbs
open Go Go.RowKit
variable [Base]

section
variable {P : Program} {ρ : Nat → Option Nat} {g : AMem} {n : Nat} {w : World}

/-! ### copy -/
def aCopy (P : Program) (g : AMem) (t : TypeId) (d s : Value) : Option (Value × Eff) := match P.underlying t with
  | some (.slice el) => match tsize P el with
    | some e => match aRead g e s with
      | some (m, xs) => match d with
        | .slice (some ⟨b, o, none⟩) dn e' =>
          if Nat.min m dn = 0 then some (.int .i64 0, .none) else
          if e' = e then match g b with
          | some (.row cs true) => if (xs.take (Nat.min m dn * e)).all cellOk = true ∧ o + Nat.min m dn * e ≤ cs.length then
              some (.int .i64 (Nat.min m dn : Nat), .put b (.row (splice cs o (xs.take (Nat.min m dn * e))) true)) else none
          | _ => none
          else none
        | .slice none 0 0 => some (.int .i64 0, .none)
        | _ => none
      | none => none
    | none => none
  | _ => none

theorem aCopy_sound {t t' ty : TypeId} {d cd s cs v : Value} {ε : Eff} (h : GRep ρ g n w) (hd : VRel ρ (szOf w) d cd) (hs : VRel ρ (szOf w) s cs) (ha : aCopy P g t d s = some (v, ε)) :
    ∃ cv w' ρ', (Builtin.copy_ #[t, t'] ty #[cd, cs]).run P w = .ok cv w' ∧ Trans ε.touch ρ g n w v (ε.mem g n) (ε.next n) cv w' ρ' := by
  unfold aCopy at ha
  split at ha
  case h_2 => cases ha
  rename_i el hu
  split at ha
  case h_2 => cases ha
  rename_i e he
  split at ha
  case h_2 => cases ha
  rename_i m xs hrd
  obtain ⟨ys, hxl, hxy, hcx⟩ := aRead_sound h hs hrd
  have hlen : ∃ bb c, cs = .slice bb m c := by
    rcases hcx with ⟨rfl, rfl⟩ | ⟨a, c, rfl, _⟩ <;> exact ⟨_, _, rfl⟩
  obtain ⟨bb, c, rfl⟩ := hlen
  split at ha
  · rename_i b o dn e'
    split at ha
    · rename_i h0
      cases ha
      cases hd with
      | sliceLost _ _ _ _ hsp => cases hsp
      | sliceFull _ _ _ hsp => cases hsp
      | slice _ _ _ _ b' dc hb hn hc =>
      refine ⟨.int .i64 0, w, ρ, ?_, Trans.stay h (.int _ _) rfl rfl rfl rfl⟩
      cases bb <;> simp [Builtin.copy_, run_underlying hu, Builtin.lenOf, h0, run_sizeOf' he, Builtin.firstCells, loadCells, loadCellsFrom, storeCells, goInt]
    rename_i h0
    split at ha
    case isFalse => cases ha
    rename_i hee
    subst hee
    split at ha
    case h_2 => cases ha
    rename_i cs0 hg
    split at ha
    case isFalse => cases ha
    rename_i hok
    obtain ⟨hc1, hc2⟩ := hok
    cases ha
    cases hd with
    | sliceLost _ _ _ _ hsp => cases hsp
    | sliceFull _ _ _ hsp => cases hsp
    | slice _ _ _ _ b' dc hb hn hc =>
    rcases hcx with ⟨_, hm⟩ | ⟨a, c', hsl, hcells⟩
    · subst hm; exact absurd (Nat.zero_min dn) h0
    cases hsl
    obtain ⟨b2, cur, ty0, fr, e1, e2, e3, e4, e5⟩ := h.cells hg
    obtain rfl := e3 rfl
    rw [hb] at e1; cases e1
    have hyl : ys.length = m * e' := by rw [← hxy.len, hxl]
    have hk : Nat.min m dn * e' ≤ m * e' := Nat.mul_le_mul_right _ (Nat.min_le_left _ _)
    have hyk : (ys.take (Nat.min m dn * e')).length = Nat.min m dn * e' := by simp only [List.length_take, hyl]; exact Nat.min_eq_left hk
    have hxk : (xs.take (Nat.min m dn * e')).length = Nat.min m dn * e' := by simp only [List.length_take, hxl]; exact Nat.min_eq_left hk
    have hl := run_firstCells_some (P := P) w e' (Nat.min m dn) a m c (ys.take (Nat.min m dn * e')) hyk (fun j v hj => hcells j v (by
      rw [List.getElem?_take] at hj
      split at hj
      · exact hj
      · cases hj))
    have hone := cellOk_all (hxy.take (Nat.min m dn * e')) hc1
    have hst := run_storeCells_at P b' o ty0 (ys.take (Nat.min m dn * e')) 0 cur w e2 (by rw [hyk]; omega) hone
    simp only [Nat.add_zero] at hst
    have hcs : (cur.toList.take o ++ ys.take (Nat.min m dn * e') ++ cur.toList.drop (o + (ys.take (Nat.min m dn * e')).length)).toArray.size = cur.size := by
      simp only [List.size_toArray, List.length_append, hyk, List.length_take, List.length_drop, Array.length_toList]; omega
    refine ⟨.int .i64 (Nat.min m dn : Nat), _, ρ, ?_, Trans.put h rfl rfl rfl rfl hg hb e2 hcs (.row _ _ _ _ _ (fun _ => rfl) ?_ ?_) (.int _ _)⟩
    · simp only [Builtin.copy_, List.getElem?_toArray, List.getElem?_cons_zero, List.getElem?_cons_succ, Sem.run_bind, run_underlying hu, Result.andThen_ok, Builtin.lenOf, Sem.run_pure, run_sizeOf' he, hl, hst, goInt]
    · rw [hcs, splice_length (by rw [hxk]; exact hc2)]; exact e4
    · have hfin := e5.splice (hxy.take (Nat.min m dn * e')) o
      rw [splice_length (by rw [hxk]; exact hc2)]
      have eq : splice (cur.toList.take cs0.length) o (ys.take (Nat.min m dn * e')) = (cur.toList.take o ++ ys.take (Nat.min m dn * e') ++ cur.toList.drop (o + (ys.take (Nat.min m dn * e')).length)).toArray.toList.take cs0.length := by
        unfold splice
        simp only [List.append_assoc]
        have f1 : (cur.toList.take cs0.length).take o = cur.toList.take o := by rw [List.take_take]; congr 1; omega
        have f2 : (cur.toList.take o).length = o := by simp; omega
        rw [f1, List.take_append, f2, List.take_take, List.take_append, List.take_of_length_le (show (ys.take (Nat.min m dn * e')).length ≤ cs0.length - o by rw [hyk]; omega)]
        congr 1
        · congr 1; omega
        · congr 1
          rw [List.drop_take]
          congr 1
          rw [hyk]; omega
      rw [← eq]; exact hfin
  · cases ha
    cases hd
    refine ⟨.int .i64 0, w, ρ, ?_, Trans.stay h (.int _ _) rfl rfl rfl rfl⟩
    cases bb <;> simp [Builtin.copy_, run_underlying hu, Builtin.lenOf, run_sizeOf' he, Builtin.firstCells, loadCells, loadCellsFrom, storeCells, goInt]
  · cases ha

/-! ### make -/
def aMake (P : Program) (n : Nat) (t : TypeId) (l c : Value) : Option (Value × Eff) := match P.underlying t, l, c with
  | some (.slice el), .int _ l, .int _ c => match tsize P el, tbytes P el, tzero P el with
    | some e, some by_, some z => if 0 ≤ l ∧ l ≤ c ∧ c ≤ 70368744177664 ∧ by_ * c.toNat ≤ 70368744177664 ∧ z.cells.toList.all flatV = true ∧ z.cells.size = e then
        some (.slice (some ⟨n, 0, none⟩) l.toNat e, .new (.row (zeroRow z.cells.toList l.toNat) true)) else none
    | _, _, _ => none
  | _, _, _ => none
theorem aMake_sound {t : TypeId} {l c cl cc v : Value} {ε : Eff} (h : GRep ρ g n w) (hl : VRel ρ (szOf w) l cl) (hc : VRel ρ (szOf w) c cc) (ha : aMake P n t l c = some (v, ε)) :
    ∃ cv w' ρ', (Instr.makeSlice t cl cc).run P w = .ok cv w' ∧ Trans ε.touch ρ g n w v (ε.mem g n) (ε.next n) cv w' ρ' := by
  unfold aMake at ha
  split at ha
  case h_2 => cases ha
  rename_i el k l k' c hu
  cases hl; cases hc
  split at ha
  case h_2 => cases ha
  rename_i e by_ z he hby hz
  split at ha
  case isFalse => cases ha
  rename_i hok
  obtain ⟨h0, h1, h2, h3, h4, h5⟩ := hok
  cases ha
  obtain ⟨c, rfl⟩ := Int.eq_ofNat_of_zero_le (show 0 ≤ c by omega)
  obtain ⟨l, rfl⟩ := Int.eq_ofNat_of_zero_le h0
  simp only [Int.toNat_natCast] at h3 ⊢
  have hbig : ¬ (281474976710656 < (by_ : Int) * (c : Int)) := by
    have : (by_ : Int) * (c : Int) = ((by_ * c : Nat) : Int) := by simp
    rw [this]; omega
  obtain ⟨ti, hti, hs1, hs2, hs3⟩ : ∃ i, P.info? el = some i ∧ i.size = e ∧ i.bytes = by_ ∧ i.zero = some z := by
    unfold tsize at he; unfold tbytes at hby; unfold tzero at hz
    cases hi : P.info? el with
    | none => simp [hi] at he
    | some i => simp [hi] at he hby hz; exact ⟨i, rfl, he, hby, hz⟩
  have hrun := run_make (P := P) w t el ti z hu hti hs3 k k' (l : Int) (c : Int) h0 h1 (by rw [hs2]; omega) (by omega)
  simp only [Int.toNat_natCast] at hrun
  have hrow : (madeCells z.cells (c * ti.size)).toList = zeroRow z.cells.toList c := by
    rw [hs1]
    by_cases hce : c * e = 0
    · have : zeroRow z.cells.toList c = [] := List.eq_nil_of_length_eq_zero (by rw [zeroRow_length]; simp only [Array.length_toList]; rw [h5]; exact hce)
      rw [this, hce]; simp [madeCells]
    · rw [← h5]
      exact zeroRow_eq z.cells c
  have hle : l ≤ c := by omega
  have hsplit : zeroRow z.cells.toList c = zeroRow z.cells.toList l ++ zeroRow z.cells.toList (c - l) := by
    unfold zeroRow
    rw [← List.flatten_append, List.replicate_append_replicate]
    congr 2; omega
  have hsize : (madeCells z.cells (c * ti.size)).size = c * e := by
    rw [← Array.length_toList, hrow, zeroRow_length, Array.length_toList, h5]
  refine ⟨_, _, rset ρ n w.heap.size, hrun, ?_⟩
  refine new_row (w1 := w) h rfl rfl rfl rfl (zeroRow_rel h4 l) ?_ ?_ hle (by rw [hsize]; exact Nat.le_refl _)
  · rw [hrow, hsplit]; exact List.take_left
  · rw [hsize, zeroRow_length, Array.length_toList, h5]; exact Nat.mul_le_mul_right _ hle
end
end Go.Proofs.YtkcahnefekkfaaaAbs

namespace Go.Proofs.YtkcahnefekkfaaaAbs
open Go Go.RowKit
variable [Base]
section
variable {P : Program} {ρ : Nat → Option Nat} {g : AMem} {n : Nat} {w : World}
def noCells : Obj → Bool | .cells _ _ _ => false | _ => true
theorem szOf_obj {b : Nat} {co co' : Obj} (hw : w.heap[b]? = some co) (h0 : noCells co = true) (h1 : noCells co' = true) : szOf { w with heap := w.heap.setIfInBounds b co' } = szOf w := funext fun k => by
  have hlt := (Array.getElem?_eq_some_iff.1 hw).1
  unfold szOf
  simp only [Array.getElem?_setIfInBounds]
  by_cases e : b = k
  · subst e
    rw [if_pos rfl, if_pos hlt, hw]
    cases co <;> cases co' <;> first | rfl | (simp [noCells] at h0 h1; done)
  · rw [if_neg e]
/-- A block that is no row of cells, written. -/
theorem Trans.putObj {v cv : Value} {i b : Nat} {o o' : AObj} {co co' : Obj} (h : GRep ρ g n w) (hi : g i = some o) (hb : ρ i = some b) (hw : w.heap[b]? = some co) (h0 : noCells co = true) (h1 : noCells co' = true)
    (ho : ORel ρ (szOf w) o' co') (hv : VRel ρ (szOf w) v cv) :
    Trans (fun j => j = i) ρ g n w v (gset g i (some o')) n cv { w with heap := w.heap.setIfInBounds b co' } ρ := by
  have hsz := szOf_obj hw h0 h1
  have hlt := (Array.getElem?_eq_some_iff.1 hw).1
  have hin := h.lt hb
  have hne : ∀ k, k ≠ b → ({ w with heap := w.heap.setIfInBounds b co' } : World).heap[k]? = w.heap[k]? := fun k hk => by
    simp only [Array.getElem?_setIfInBounds]; rw [if_neg (fun e => hk e.symm)]
  have hat : ({ w with heap := w.heap.setIfInBounds b co' } : World).heap[b]? = some co' := by
    simp only [Array.getElem?_setIfInBounds]; rw [if_pos trivial, if_pos hlt]
  refine ⟨by rw [hsz]; exact hv, ⟨?_, ?_, h.dom, by intro i b hi; simpa using h.old i b hi⟩, Nat.le_refl _, fun _ _ => rfl, ⟨rfl, rfl, rfl, by simp, ?_, fun k => by rw [hsz]; exact Nat.le_refl _⟩, fun j c hj hc => (by rw [h.dom j hj] at hc; cases hc), ?_⟩
  · intro j x hj
    by_cases e : j = i
    · subst e
      rw [gset_same] at hj; cases hj
      exact ⟨b, _, hb, hat, by rw [hsz]; exact ho⟩
    · rw [gset_ne _ _ e] at hj
      obtain ⟨c, co, e1, e2, e3⟩ := h.obj j x hj
      have hn : c ≠ b := fun ec => e (h.inj j i b (by rw [hj]; simp) (by rw [hi]; simp) (ec ▸ e1) hb)
      exact ⟨c, co, e1, by rw [hne c hn]; exact e2, by rw [hsz]; exact e3⟩
  · intro j k c hj hk ej ek
    refine h.inj j k c ?_ ?_ ej ek
    · by_cases e : j = i
      · rw [e, hi]; simp
      · rwa [gset_ne _ _ e] at hj
    · by_cases e : k = i
      · rw [e, hi]; simp
      · rwa [gset_ne _ _ e] at hk
  · intro k hk hn
    rw [hne k (fun e => hn ⟨i, hin, rfl, by rw [e]; exact hb⟩)]
  · intro j hj hn
    have : j ≠ i := fun e => by rw [e, hi] at hn; cases hn
    rw [gset_ne _ _ this]; exact hn

/-! ### Strings -/
def aRange (P : Program) (n : Nat) (t : TypeId) (x : Value) : Option (Value × Eff) := match P.underlying t, x with
  | some .string, .string s => some (.pointer (some ⟨n, 0, none⟩), .new (.iter s 0))
  | _, _ => none
theorem aRange_sound {t : TypeId} {x cx v : Value} {ε : Eff} (h : GRep ρ g n w) (hx : VRel ρ (szOf w) x cx) (ha : aRange P n t x = some (v, ε)) :
    ∃ cv w' ρ', (Instr.range t cx).run P w = .ok cv w' ∧ Trans ε.touch ρ g n w v (ε.mem g n) (ε.next n) cv w' ρ' := by
  unfold aRange at ha
  split at ha
  · rename_i s hu
    cases ha
    cases hx
    refine ⟨.pointer (some ⟨w.heap.size, 0, none⟩), w.alloc (.stringIter s 0), rset ρ n w.heap.size, ?_, Trans.new (w1 := w) h rfl rfl rfl rfl (.iter s 0) (.ptr _ _ _ (if_pos rfl))⟩
    simp [Instr.range, run_underlying hu]
  · cases ha
def nextS (s : ByteArray) (pos b : Nat) : Value × Eff :=
  if pos < s.size then (.tuple #[.bool true, .int .i64 pos, .int .i32 (Utf8.decode s pos).1], .put b (.iter s (pos + (Utf8.decode s pos).2))) else (.tuple #[.bool false], .none)
def aNext (g : AMem) (x : Value) : Option (Value × Eff) := match x with
  | .pointer (some ⟨b, 0, none⟩) => match g b with
    | some (.iter s pos) => some (nextS s pos b)
    | _ => none
  | _ => none
theorem aNext_sound {ty : TypeId} {x cx v : Value} {ε : Eff} (h : GRep ρ g n w) (hx : VRel ρ (szOf w) x cx) (ha : aNext g x = some (v, ε)) :
    ∃ cv w' ρ', (Instr.next cx true ty).run P w = .ok cv w' ∧ Trans ε.touch ρ g n w v (ε.mem g n) (ε.next n) cv w' ρ' := by
  unfold aNext at ha
  split at ha
  · rename_i b
    split at ha
    · rename_i s pos hg
      obtain ⟨b', co, h1, h2, h3⟩ := h.obj b _ hg
      cases h3
      cases hx with
      | ptr _ _ b2 hb2 =>
      rw [h1] at hb2; cases hb2
      simp only [nextS, Option.some.injEq] at ha
      by_cases hp : pos < s.size
      · rw [if_pos hp] at ha
        cases ha
        refine ⟨_, _, ρ, ?_, Trans.putObj (co' := .stringIter s (pos + (Utf8.decode s pos).2)) h hg h1 h2 rfl rfl (.iter _ _) (pureV_rel rfl)⟩
        simp [Instr.next, getObj, setObj, Sem.run, h2, hp, goInt]
      · rw [if_neg hp] at ha
        cases ha
        refine ⟨.tuple #[.bool false], w, ρ, ?_, Trans.stay h (pureV_rel rfl) rfl rfl rfl rfl⟩
        simp [Instr.next, getObj, setObj, Sem.run, h2, hp, goInt]
    · cases ha
  · cases ha

/-! ### Maps -/
def aFindK (k : IntKind) (a : Int) : List (Value × Value) → Nat → Option (Option (Nat × Value))
  | [], _ => some none
  | (.int k' b, v) :: es, i => if k = k' then (if a = b then some (some (i, v)) else aFindK k a es (i + 1)) else none
  | _ :: _, _ => none
structure MRel (ρ : Nat → Option Nat) (sz : Nat → Nat) (es : List (Value × Value)) (ces : List MapEntry) : Prop where
  len : es.length = ces.length
  at_ : ∀ (i : Nat) (h1 : i < es.length) (h2 : i < ces.length), VRel ρ sz es[i].1 ces[i].key ∧ VRel ρ sz es[i].2 ces[i].val
theorem aFindK_sound {sz : Nat → Nat} {d : IntKind} {k : IntKind} {a : Int} : ∀ (es : List (Value × Value)) (ces : List MapEntry) (i : Nat) (r : Option (Nat × Value)), MRel ρ sz es ces → aFindK k a es i = some r →
    (r = none ∧ Instr.findNow (.int d) (.int k a) ces i = some none) ∨
    (∃ p v cv, ∃ (h1 : p < es.length) (h2 : p < ces.length), r = some (i + p, v) ∧ Instr.findNow (.int d) (.int k a) ces i = some (some (i + p, cv)) ∧ VRel ρ sz v cv ∧ es[p] = (.int k a, v) ∧ ces[p].key = .int k a)
  | [], ces, i, r, hr, h => by
    have : ces = [] := List.eq_nil_of_length_eq_zero hr.len.symm
    subst this
    simp only [aFindK, Option.some.injEq] at h
    exact .inl ⟨h.symm, rfl⟩
  | (kv, v) :: es, [], i, r, hr, h => by have := hr.len; simp at this
  | (kv, v) :: es, ce :: ces, i, r, hr, h => by
    have h0 := hr.at_ 0 (by simp) (by simp)
    simp only [List.getElem_cons_zero] at h0
    obtain ⟨hk, hv⟩ := h0
    cases kv <;> simp only [aFindK] at h <;> try (cases h; done)
    rename_i k' b
    split at h
    · rename_i hkk
      subst hkk
      have ek : ce.key = .int k b := by cases hke : ce.key <;> rw [hke] at hk <;> cases hk; rfl
      split at h
      · rename_i hab
        subst hab
        cases h
        refine .inr ⟨0, v, ce.val, by simp, by simp, rfl, ?_, hv, rfl, ek⟩
        simp [Instr.findNow, ek, Instr.sameNow]
      · rename_i hab
        have hr' : MRel ρ sz es ces := ⟨by have := hr.len; simpa using this, fun j h1 h2 => by
          have := hr.at_ (j + 1) (by simpa using h1) (by simpa using h2)
          simpa using this⟩
        have e : Instr.findNow (.int d) (.int k a) (ce :: ces) i = Instr.findNow (.int d) (.int k a) ces (i + 1) := by
          have hab' : (a == b) = false := by simp [hab]
          simp [Instr.findNow, ek, Instr.sameNow, hab']
        rcases aFindK_sound es ces (i + 1) r hr' h with ⟨h1, h2⟩ | ⟨p, u, cu, h1, h2, h3, h4, h5, h6, h7⟩
        · exact .inl ⟨h1, by rw [e]; exact h2⟩
        · exact .inr ⟨p + 1, u, cu, by simpa using h1, by simpa using h2, by rw [h3, show i + 1 + p = i + (p + 1) by omega], by rw [e, h4, show i + 1 + p = i + (p + 1) by omega], h5, by simpa using h6, by simpa using h7⟩
    · cases h
def mapHas (g : AMem) (x : Value) : Option (List (Value × Value)) := match x with
  | .map none => some []
  | .map (some b) => match g b with
    | some (.map es) => some es
    | _ => none
  | _ => none
def intKey (P : Program) (key : TypeId) (i : Value) : Option (IntKind × Int) := match P.underlying key, i with
  | some (.int _), .int k a => some (k, a)
  | _, _ => none
def aLookup (P : Program) (g : AMem) (t : TypeId) (x i : Value) (ok : Bool) : Option Value := match P.underlying t with
  | some (.map key elem) => match intKey P key i, mapHas g x with
    | some (k, a), some es => match aFindK k a es 0 with
      | some (some (_, v)) => some (if ok = true then .tuple #[v, .bool true] else v)
      | some none => match tzero P elem with
        | some z => if flatV z = true then some (if ok = true then .tuple #[z, .bool false] else z) else none
        | none => none
      | none => none
    | _, _ => none
  | _ => none
theorem tup2_rel {sz : Nat → Nat} {a b c d : Value} (h : VRel ρ sz a b) (h' : VRel ρ sz c d) : VRel ρ sz (.tuple #[a, c]) (.tuple #[b, d]) := .tuple _ _ rfl fun i h1 h2 => by
  match i, h1 with
  | 0, _ => exact h
  | 1, _ => exact h'
theorem checkKey_int {k : IntKind} {a : Int} {key : TypeId} {d : IntKind} {e : Bool} (hu : P.underlying key = some (.int d)) : (Instr.checkKey e 10000 key (.int k a)).run P w = .ok () w := by
  rw [show (10000 : Nat) = 9999 + 1 from rfl]
  unfold Instr.checkKey
  simp [run_underlying hu]
theorem findKey_now {k : Value} {ces : List MapEntry} {key : TypeId} {d : IntKind} {r : Option (Nat × Value)} (hu : P.underlying key = some (.int d)) (h : Instr.findNow (.int d) k ces 0 = some r) : (Instr.findKey key k ces).run P w = .ok r w := by
  unfold Instr.findKey
  simp [run_underlying hu, h]
theorem mapHas_sound {x cx : Value} {es : List (Value × Value)} (h : GRep ρ g n w) (hx : VRel ρ (szOf w) x cx) (hm : mapHas g x = some es) :
    (cx = .map none ∧ es = []) ∨ ∃ i b ces clock, x = .map (some i) ∧ cx = .map (some b) ∧ g i = some (.map es) ∧ ρ i = some b ∧ w.heap[b]? = some (.map ces clock) ∧ MRel ρ (szOf w) es ces.toList := by
  unfold mapHas at hm
  split at hm
  · cases hm; cases hx; exact .inl ⟨rfl, rfl⟩
  · rename_i b
    split at hm
    · rename_i es' hg
      cases hm
      cases hx with
      | map _ b' hb =>
      obtain ⟨b2, co, h1, h2, h3⟩ := h.obj b _ hg
      rw [hb] at h1; cases h1
      cases h3 with
      | map _ ces clock hl hh =>
      exact .inr ⟨b, b', ces, clock, rfl, rfl, hg, hb, h2, ⟨by simpa using hl, fun i h1 h2 => by simpa using hh i h1 (by simpa using h2)⟩⟩
    · cases hm
  · cases hm
theorem intKey_inv {key : TypeId} {i ci : Value} {k : IntKind} {a : Int} {sz : Nat → Nat} (hi : VRel ρ sz i ci) (h : intKey P key i = some (k, a)) : ∃ d, P.underlying key = some (.int d) ∧ i = .int k a ∧ ci = .int k a := by
  unfold intKey at h
  split at h
  · rename_i d k' a' hu
    cases h
    cases hi
    exact ⟨_, hu, rfl, rfl⟩
  · cases h
theorem lookup_run {t key elem : TypeId} {cx : Value} {k : IntKind} {a : Int} {d : IntKind} {ok : Bool} {ces : Array MapEntry} {r : Option (Nat × Value)} {z : Value} (hu : P.underlying t = some (.map key elem)) (hu2 : P.underlying key = some (.int d))
    (hx : cx = .map none ∧ ces = #[] ∨ ∃ b clock, cx = .map (some b) ∧ w.heap[b]? = some (.map ces clock)) (hf : Instr.findNow (.int d) (.int k a) ces.toList 0 = some r) (hz : r = none → tzero P elem = some z) :
    (Instr.lookup t cx (.int k a) ok).run P w = .ok (match r with | some (_, v) => if ok = true then .tuple #[v, .bool true] else v | none => if ok = true then .tuple #[z, .bool false] else z) w := by
  cases r with
  | some pv =>
    obtain ⟨p, v⟩ := pv
    rcases hx with ⟨rfl, rfl⟩ | ⟨b, clock, rfl, hb⟩
    · simp [Instr.findNow] at hf
    · unfold Instr.lookup
      cases ok <;> simp [run_underlying hu, getObj, Sem.run, hb, checkKey_int hu2, findKey_now hu2 hf]
  | none =>
    have hz' := run_zeroValue' (P := P) (w := w) (hz rfl)
    rcases hx with ⟨rfl, rfl⟩ | ⟨b, clock, rfl, hb⟩
    · have hf' := findKey_now (P := P) (w := w) hu2 hf
      simp only at hf'
      unfold Instr.lookup
      cases ok <;> simp [run_underlying hu, checkKey_int hu2, hf', hz']
    · unfold Instr.lookup
      cases ok <;> simp [run_underlying hu, getObj, Sem.run, hb, checkKey_int hu2, findKey_now hu2 hf, hz']
theorem aLookup_sound {t : TypeId} {x cx i ci v : Value} {ok : Bool} (h : GRep ρ g n w) (hx : VRel ρ (szOf w) x cx) (hi : VRel ρ (szOf w) i ci) (ha : aLookup P g t x i ok = some v) :
    ∃ cv, (Instr.lookup t cx ci ok).run P w = .ok cv w ∧ VRel ρ (szOf w) v cv := by
  unfold aLookup at ha
  split at ha
  case h_2 => cases ha
  rename_i key elem hu
  split at ha
  case h_2 => cases ha
  rename_i k a es hk hm
  obtain ⟨d, hu2, rfl, rfl⟩ := intKey_inv hi hk
  obtain ⟨ces, hcx, hrel⟩ : ∃ ces : Array MapEntry, (cx = .map none ∧ ces = #[] ∨ ∃ b clock, cx = .map (some b) ∧ w.heap[b]? = some (.map ces clock)) ∧ MRel ρ (szOf w) es ces.toList := by
    rcases mapHas_sound h hx hm with ⟨rfl, rfl⟩ | ⟨j, b, ces, clock, rfl, rfl, h1, h2, h3, h4⟩
    · exact ⟨#[], .inl ⟨rfl, rfl⟩, ⟨rfl, fun i h1 => by simp at h1⟩⟩
    · exact ⟨ces, .inr ⟨b, clock, rfl, h3⟩, h4⟩
  split at ha
  · rename_i p u hf
    cases ha
    rcases aFindK_sound (d := d) es ces.toList 0 _ hrel hf with ⟨h1, _⟩ | ⟨p, u', cu, h1, h2, h3, h4, h5, _⟩
    · cases h1
    · cases h3
      refine ⟨_, lookup_run (z := undef) hu hu2 hcx h4 (fun e => by cases e), ?_⟩
      cases ok
      · exact h5
      · exact tup2_rel h5 (.bool _)
  · rename_i hf
    split at ha
    · rename_i z hz
      split at ha
      · rename_i hfl
        cases ha
        rcases aFindK_sound (d := d) es ces.toList 0 _ hrel hf with ⟨_, h4⟩ | ⟨p, u', cu, h1, h2, h3, _⟩
        · refine ⟨_, lookup_run hu hu2 hcx h4 (fun _ => hz), ?_⟩
          cases ok
          · exact flatV_rel hfl
          · exact tup2_rel (flatV_rel hfl) (.bool _)
        · cases h3
      · cases ha
    · cases ha
  · cases ha
def aMapPut (P : Program) (g : AMem) (t : TypeId) (m i v : Value) : Option Eff := match P.underlying t with
  | some (.map key elem) => match intKey P key i, m with
    | some (k, a), .map (some b) => match g b with
      | some (.map es) => match aFindK k a es 0 with
        | some (some (p, _)) => some (.put b (.map (es.set p (.int k a, v))))
        | some none => some (.put b (.map (es ++ [(.int k a, v)])))
        | none => none
      | _ => none
    | _, _ => none
  | _ => none
theorem aMapPut_sound {t : TypeId} {m cm i ci v cv : Value} {ε : Eff} (h : GRep ρ g n w) (hm : VRel ρ (szOf w) m cm) (hi : VRel ρ (szOf w) i ci) (hv : VRel ρ (szOf w) v cv) (ha : aMapPut P g t m i v = some ε) :
    ∃ w' ρ', (Instr.mapUpdate t cm ci cv).run P w = .ok () w' ∧ Trans ε.touch ρ g n w undef (ε.mem g n) (ε.next n) undef w' ρ' := by
  unfold aMapPut at ha
  split at ha
  case h_2 => cases ha
  rename_i key elem hu
  split at ha
  case h_2 => cases ha
  rename_i k a b hk
  obtain ⟨d, hu2, rfl, rfl⟩ := intKey_inv hi hk
  split at ha
  case h_2 => cases ha
  rename_i es hg
  have hmh : mapHas g (.map (some b)) = some es := by simp [mapHas, hg]
  rcases mapHas_sound h hm hmh with ⟨rfl, _⟩ | ⟨j, b', ces, clock, e1, rfl, h1, h2, h3, h4⟩
  · cases hm
  simp only [Value.map.injEq, Option.some.injEq] at e1
  subst e1
  split at ha
  · rename_i p u hf
    cases ha
    rcases aFindK_sound (d := d) es ces.toList 0 _ h4 hf with ⟨h5, _⟩ | ⟨q, u', cu, h5, h6, h7, h8, h9, h10, h11⟩
    · cases h5
    · simp only [Nat.zero_add] at h7 h8
      cases h7
      have h6' : p < ces.size := by simpa using h6
      have h11' : ces[p].key = .int k a := by simpa using h11
      have hsame : Instr.sameBits 10000 (.int k a) (.int k a) = true := by
        rw [show (10000 : Nat) = 9999 + 1 from rfl]; simp [Instr.sameBits]
      refine ⟨_, ρ, ?_, Trans.putObj (co' := .map (ces.modify p fun e => { e with key := .int k a, val := cv }) clock) h hg h2 h3 rfl rfl (.map _ _ _ ?_ ?_) (pureV_rel rfl)⟩
      · simp [Instr.mapUpdate, run_underlying hu, getObj, setObj, Sem.run, h3, checkKey_int hu2, findKey_now hu2 h8, Instr.keyThatStays, h6', h11', hsame]
      · have := h4.len; simp at this ⊢; exact this
      · intro j h12 h13
        have h12' : j < es.length := by simpa using h12
        have h13' : j < ces.toList.length := by simpa using h13
        by_cases e : p = j
        · subst e
          simp [Array.getElem_modify]
          exact ⟨.int _ _, hv⟩
        · have := h4.at_ j h12' h13'
          simp only [List.getElem_set, if_neg e, Array.getElem_modify]
          simpa using this
  · rename_i hf
    cases ha
    rcases aFindK_sound (d := d) es ces.toList 0 _ h4 hf with ⟨_, h8⟩ | ⟨q, u', cu, h5, h6, h7, _⟩
    · refine ⟨_, ρ, ?_, Trans.putObj (co' := .map (ces.push { key := .int k a, val := cv, born := clock }) (clock + 1)) h hg h2 h3 rfl rfl (.map _ _ _ ?_ ?_) (pureV_rel rfl)⟩
      · simp [Instr.mapUpdate, run_underlying hu, getObj, setObj, Sem.run, h3, checkKey_int hu2, findKey_now hu2 h8]
      · have := h4.len; simp at this ⊢; exact this
      · intro j h12 h13
        have hl := h4.len
        simp at hl
        by_cases e : j < es.length
        · have := h4.at_ j e (by simp; omega)
          rw [List.getElem_append_left e, Array.getElem_push_lt (by omega)]
          simpa using this
        · have ej : j = es.length := by simp at h12; omega
          subst ej
          have e2 : es.length = ces.size := hl
          rw [List.getElem_append_right (Nat.le_refl _)]
          simp [e2]
          exact ⟨.int _ _, hv⟩
    · cases h7
  · cases ha
def aMakeMap (P : Program) (n : Nat) (t : TypeId) (r : Option Value) : Option (Value × Eff) := match r with
  | none => some (.map (some n), .new (.map []))
  | some (.int _ _) => match P.underlying t with
    | some (.map _ _) => some (.map (some n), .new (.map []))
    | _ => none
  | _ => none

/-- What is put into an interface. -/
def aIface (P : Program) (t : TypeId) (x : Value) : Option Value := match P.underlying t with
  | some (.interface _) => none
  | some _ => some (.iface t x)
  | none => none
theorem aIface_sound {t : TypeId} {x cx v : Value} (hx : VRel ρ (szOf w) x cx) (ha : aIface P t x = some v) : ∃ cv, (Instr.makeInterface t cx).run P w = .ok cv w ∧ VRel ρ (szOf w) v cv := by
  unfold aIface at ha
  split at ha
  · cases ha
  · rename_i d hn hu
    cases ha
    refine ⟨.iface t cx, ?_, .iface _ _ _ hx⟩
    unfold Instr.makeInterface
    simp only [Sem.run_bind, run_underlying hu, Result.andThen_ok]
    rfl
  · cases ha
theorem aMakeMap_sound {t : TypeId} {r cr : Option Value} {v : Value} {ε : Eff} (h : GRep ρ g n w) (hr : ORelV ρ (szOf w) r cr) (ha : aMakeMap P n t r = some (v, ε)) :
    ∃ cv w' ρ', (Instr.makeMap t cr).run P w = .ok cv w' ∧ Trans ε.touch ρ g n w v (ε.mem g n) (ε.next n) cv w' ρ' := by
  have key : Trans (Eff.new (.map [])).touch ρ g n w (.map (some n)) ((Eff.new (.map [])).mem g n) (n + 1) (.map (some w.heap.size)) (w.alloc (.map #[] 0)) (rset ρ n w.heap.size) :=
    Trans.new (w1 := w) h rfl rfl rfl rfl (.map _ _ _ rfl fun i h1 => by simp at h1) (.map _ _ (if_pos rfl))
  unfold aMakeMap at ha
  split at ha
  · cases ha
    cases hr
    exact ⟨_, _, _, by simp [Instr.makeMap], key⟩
  · split at ha
    · rename_i hu
      cases ha
      cases hr with
      | some _ _ hr =>
      cases hr
      exact ⟨_, _, _, by simp [Instr.makeMap, run_underlying hu, asInt, asIntOf], key⟩
    · cases ha
  · cases ha
end
end Go.Proofs.YtkcahnefekkfaaaAbs

namespace Go.Proofs.YtkcahnefekkfaaaAbs
open Go Go.RowKit
variable [Base]

def aLen (P : Program) (t : TypeId) (x : Value) : Option Value := match P.underlying t, x with
  | some .string, .string s => some (.int .i64 s.size)
  | some (.array n _), _ => some (.int .i64 n)
  | some (.slice _), .slice _ n _ => some (.int .i64 n)
  | _, _ => none
def aIndex (P : Program) (t : TypeId) (x i : Value) : Option Value := match P.underlying t, x, i with
  | some (.array n el), .agg cs, .int _ i => match tsize P el with
    | some e => if 0 ≤ i ∧ i < n then aPart P el cs.toList (i.toNat * e) else none
    | none => none
  | some .string, .string s, .int k i => if 0 ≤ i ∧ i < s.size then some (.int .u8 (s.data.toList.getD i.toNat 0).toNat) else none
  | _, _, _ => none
def aBuiltin (P : Program) (g : AMem) (n : Nat) (ty : TypeId) (ev : Operand → Value) (b : Builtin) (args : Array Operand) (argTypes : Array TypeId) : Option (Value × Eff) :=
  match b, args.toList, argTypes.toList with
  | .len, [x], [t] => (aLen P t (ev x)).map fun v => (v, Eff.none)
  | .append, [s, x], [t, t'] => if t = t' then aAppend P g n t (ev s) (ev x) else none
  | .copy, [d, s], [t, _] => aCopy P g t (ev d) (ev s)
  | .max, xs, _ => if xs.all (fun x => flatV (ev x)) = true then (pureFlat P (Builtin.max_ argTypes ty (args.map ev))).map fun v => (v, Eff.none) else none
  | .min, xs, _ => if xs.all (fun x => flatV (ev x)) = true then (pureFlat P (Builtin.min_ argTypes ty (args.map ev))).map fun v => (v, Eff.none) else none
  | .real, xs, _ => if xs.all (fun x => flatV (ev x)) = true then (pureFlat P (Builtin.real_ argTypes ty (args.map ev))).map fun v => (v, Eff.none) else none
  | .imag, xs, _ => if xs.all (fun x => flatV (ev x)) = true then (pureFlat P (Builtin.imag_ argTypes ty (args.map ev))).map fun v => (v, Eff.none) else none
  | .complex, xs, _ => if xs.all (fun x => flatV (ev x)) = true then (pureFlat P (Builtin.complex_ argTypes ty (args.map ev))).map fun v => (v, Eff.none) else none
  | _, _, _ => none

def zeroFlat (P : Program) (t : TypeId) : Option (List Value) := match tzero P t with
  | some z => if z.cells.toList.all flatV = true then some z.cells.toList else none
  | none => none

/-- **What an operation (but a call of a Go function) comes to**: the value, and what it does to the heap. -/
def aOp (P : Program) (ty : TypeId) (ev : Operand → Value) (g : AMem) (n : Nat) : Op → Option (Value × Eff)
  | .move x => some (ev x, .none)
  | .assign x => some (ev x, .none)
  | .pick c a b => match ev c with
    | .bool t => some (if t then ev a else ev b, .none)
    | _ => none
  | .alloc t => (zeroFlat P t).map fun z => (.pointer (some ⟨n, 0, none⟩), .new (.row z true))
  | .box _ x => if isJunk (ev x) = false then some (.pointer (some ⟨n, 0, none⟩), .new (.row (ev x).cells.toList true)) else none
  | .build t parts => match zeroFlat P t, P.underlying t with
    | some z, some (.struct _) => match tplaces P t with
      | some pl => (aFill (fun i => pl[i]?) z (parts.toList.map fun p => (p.1, ev p.2))).map fun cs => (.agg cs.toArray, .none)
      | none => none
    | some z, some (.array _ el) => match tsize P el with
      | some s => (aFill (fun i => some (i * s, s)) z (parts.toList.map fun p => (p.1, ev p.2))).map fun cs => (.agg cs.toArray, .none)
      | none => none
    | _, _ => none
  | .buildSlice t len parts => match P.underlying t with
    | some (.slice el) => match zeroFlat P el, tsize P el with
      | some z, some s => if z.length = s ∧ len * s ≤ 16777216 then
          (aFill (fun i => some (i * s, s)) (zeroRow z len) (parts.toList.map fun p => (p.1, ev p.2))).map fun cs => (.slice (some ⟨n, 0, none⟩) len s, .new (.row cs true)) else none
      | _, _ => none
    | _ => none
  | .load t a => (aLoad P g t (ev a)).map fun v => (v, .none)
  | .store t a v => (aStore P g t (ev v) (ev a)).map fun ε => (undef, ε)
  | .nilCheck x => match ev x with
    | .pointer (some a) => some (.pointer (some a), .none)
    | .func (.func f) xs ys => some (.func (.func f) xs ys, .none)
    | _ => none
  | .binOp op t x y _ => (aBin P op t x y (ev x) (ev y)).map fun v => (v, .none)
  | .unOp op _ x => if flatV (ev x) = true then (pureFlat P (Op.unary op (ev x))).map fun v => (v, .none) else none
  | .convert src dst x => if flatV (ev x) = true then (pureFlat P (convert src dst (ev x))).map fun v => (v, .none) else none
  | .makeFunc fn first captured => some (.func fn (first.map ev) (captured.map ev), .none)
  | .makeSlice t l c => aMake P n t (ev l) (ev c)
  | .slice t x lo hi mx => match P.underlying t with
    | some .string => if flatV (ev x) = true ∧ lo.all (fun x => flatV (ev x)) = true ∧ hi.all (fun x => flatV (ev x)) = true ∧ mx.isNone = true then
        (pureFlat P (Instr.slice t (ev x) (lo.map ev) (hi.map ev) none)).map fun v => (v, .none) else none
    | _ => (aSlice P g t (ev x) (lo.map ev) (hi.map ev) (mx.map ev)).map fun v => (v, .none)
  | .fieldAddr t x i => (aFieldAddr P t i (ev x)).map fun v => (v, .none)
  | .field t x i => (aField P t i (ev x)).map fun v => (v, .none)
  | .indexAddr t x i => (aIndexAddr P t (ev x) (ev i)).map fun v => (v, .none)
  | .index t x i => (aIndex P t (ev x) (ev i)).map fun v => (v, .none)
  | .extract x i => match ev x with
    | .tuple vs => (vs.toList[i]?).map fun v => (v, .none)
    | _ => none
  | .call c => match c.callee with
    | .builtin b => aBuiltin P g n ty ev b c.args c.argTypes
    | _ => none
  | .range t x => aRange P n t (ev x)
  | .next x s => if s = true then aNext g (ev x) else none
  | .makeMap t r => aMakeMap P n t (r.map ev)
  | .lookup t x i ok => (aLookup P g t (ev x) (ev i) ok).map fun v => (v, .none)
  | .mapUpdate t m i v => (aMapPut P g t (ev m) (ev i) (ev v)).map fun ε => (undef, ε)
  | .makeInterface t x => (aIface P t (ev x)).map fun v => (v, .none)
  | _ => none

section
variable {P : Program} {ρ : Nat → Option Nat} {g : AMem} {n : Nat} {w : World}
theorem zeroFlat_run {t : TypeId} {z : List Value} (h : zeroFlat P t = some z) : ∃ v, (zeroValue t).run P w = .ok v w ∧ v.cells.toList = z ∧ z.all flatV = true := by
  unfold zeroFlat at h
  split at h
  · rename_i v hv
    split at h
    · cases h; rename_i hf; exact ⟨v, run_zeroValue' hv, rfl, hf⟩
    · cases h
  · cases h
theorem aLen_sound {t ty : TypeId} {x cx v : Value} {sz : Nat → Nat} (hx : VRel ρ sz x cx) (h : aLen P t x = some v) (w : World) :
    (Builtin.len_ #[t] ty #[cx]).run P w = .ok v w ∧ VRel ρ sz v v := by
  unfold aLen at h
  split at h
  · rename_i hu; cases h; cases hx; exact ⟨by simp [Builtin.len_, run_underlying hu, goInt], .int _ _⟩
  · rename_i hu; cases h; exact ⟨by simp [Builtin.len_, run_underlying hu, goInt], .int _ _⟩
  · rename_i hu; cases h; cases hx <;> exact ⟨by simp [Builtin.len_, run_underlying hu, goInt], .int _ _⟩
  · cases h
theorem aIndex_sound {t : TypeId} {x cx i ci v : Value} {sz : Nat → Nat} (hx : VRel ρ sz x cx) (hi : VRel ρ sz i ci) (h : aIndex P t x i = some v) (w : World) :
    ∃ cv, (Instr.index t cx ci).run P w = .ok cv w ∧ VRel ρ sz v cv := by
  unfold aIndex at h
  split at h
  · rename_i m el cs k i hu
    obtain ⟨ys, rfl, hys⟩ := hx.agg_inv
    cases hi
    split at h
    · rename_i e he
      split at h
      · rename_i hok
        obtain ⟨cv, h1, h2⟩ := aPart_sound hys h w
        refine ⟨cv, ?_, h2⟩
        simp [Instr.index, asIntOf, run_underlying hu, hok, run_sizeOf' he]
        simpa using h1
      · cases h
    · cases h
  · rename_i s k i hu
    cases hx; cases hi
    split at h
    · rename_i hok
      cases h
      obtain ⟨j, rfl⟩ := Int.eq_ofNat_of_zero_le hok.1
      have hj : j < s.size := by omega
      refine ⟨_, ?_, .int _ _⟩
      simp [Instr.index, asIntOf, run_underlying hu, hj]
      rfl
    · cases h
  · cases h

theorem OpDoes.ofTrans {s : Sem Next} {v cv : Value} {ε : Eff} {w' : World} {ρ' : Nat → Option Nat} (hs : s.run P w = .ok (.value cv) w') (h : Trans ε.touch ρ g n w v (ε.mem g n) (ε.next n) cv w' ρ') : OpDoes P ρ g n w s v ε :=
  ⟨_, cv, w', ρ', hs, .inl rfl, h⟩

theorem aBuiltin_sound {ty : TypeId} {ev cev : Operand → Value} {b : Builtin} {args : Array Operand} {argTypes : Array TypeId} {v : Value} {ε : Eff} (h : GRep ρ g n w) (he : ∀ x, VRel ρ (szOf w) (ev x) (cev x)) (ha : aBuiltin P g n ty ev b args argTypes = some (v, ε)) (cs : Array Bool) :
    OpDoes P ρ g n w (builtin b argTypes ty cs (args.map cev)) v ε := by
  have flats : ∀ xs : List Operand, xs.all (fun x => flatV (ev x)) = true → args.toList = xs → args.map cev = args.map ev := fun xs hf e => by
    subst e
    apply Array.map_congr_left
    intro x hx
    exact flat_eq (he x) (List.all_eq_true.1 hf x (by simpa using hx))
  unfold aBuiltin at ha
  split at ha
  · rename_i x t e1 e2
    simp only [Option.map_eq_some_iff, Prod.mk.injEq] at ha
    obtain ⟨u, hu, rfl, rfl⟩ := ha
    obtain ⟨h1, h2⟩ := aLen_sound (ty := ty) (he x) hu w
    have ea : args = #[x] := Array.ext' e1
    have et : argTypes = #[t] := Array.ext' e2
    subst ea et
    exact OpDoes.val h (by simp [builtin, h1]) h2
  · rename_i s x t t' e1 e2
    split at ha
    · rename_i ett
      subst ett
      have ea : args = #[s, x] := Array.ext' e1
      have et : argTypes = #[t, t] := Array.ext' e2
      subst ea et
      obtain ⟨cv, w', ρ', h1, h2⟩ := aAppend_sound (ty := ty) h (he s) (he x) ha
      exact OpDoes.ofTrans (by simp [builtin, h1]) h2
    · cases ha
  · rename_i d s t t' e1 e2
    have ea : args = #[d, s] := Array.ext' e1
    have et : argTypes = #[t, t'] := Array.ext' e2
    subst ea et
    obtain ⟨cv, w', ρ', h1, h2⟩ := aCopy_sound (ty := ty) (t' := t') h (he d) (he s) ha
    exact OpDoes.ofTrans (by simp [builtin, h1]) h2
  all_goals first
    | cases ha
    | (rename_i e1
       split at ha
       · rename_i hf
         simp only [Option.map_eq_some_iff, Prod.mk.injEq] at ha
         obtain ⟨u, hu, rfl, rfl⟩ := ha
         obtain ⟨h1, h2⟩ := pureFlat_run hu w
         rw [flats _ hf rfl]
         exact OpDoes.val h (by simp [builtin, h1]) (pureV_rel h2)
       · cases ha)
end
end Go.Proofs.YtkcahnefekkfaaaAbs

namespace Go.Proofs.YtkcahnefekkfaaaAbs
open Go Go.RowKit
variable [Base]
section
variable {P : Program} {ρ : Nat → Option Nat} {g : AMem} {n : Nat} {w : World}

theorem parts_rel {ev cev : Operand → Value} {sz : Nat → Nat} (he : ∀ x, VRel ρ sz (ev x) (cev x)) (parts : List (Nat × Operand)) :
    (parts.map fun p => (p.1, ev p.2)).length = (parts.map fun p => (p.1, cev p.2)).length ∧
    ∀ (i : Nat) (h1 : i < (parts.map fun p => (p.1, ev p.2)).length) (h2 : i < (parts.map fun p => (p.1, cev p.2)).length),
      ((parts.map fun p => (p.1, ev p.2))[i]).1 = ((parts.map fun p => (p.1, cev p.2))[i]).1 ∧ VRel ρ sz ((parts.map fun p => (p.1, ev p.2))[i]).2 ((parts.map fun p => (p.1, cev p.2))[i]).2 :=
  ⟨by simp, fun i h1 h2 => by simp only [List.getElem_map]; exact ⟨trivial, he _⟩⟩

theorem opt_rel {ev cev : Operand → Value} {sz : Nat → Nat} (he : ∀ x, VRel ρ sz (ev x) (cev x)) (o : Option Operand) : ORelV ρ sz (o.map ev) (o.map cev) := by
  cases o with
  | none => exact .none
  | some x => exact .some _ _ (he x)

theorem places_run {t : TypeId} {fs : Array Field} {pl : List (Nat × Nat)} (hu : P.underlying t = some (.struct fs)) (h : tplaces P t = some pl) :
    (List.mapM (fun f : Field => (Prod.mk f.offset <$> sizeOf f.type : Sem (Nat × Nat))) fs.toList).run P w = .ok pl w := by
  unfold tplaces at h
  simp only [hu] at h
  have key : ∀ (l : List Field) (pl : List (Nat × Nat)), l.mapM (fun f => (tsize P f.type).map fun s => (f.offset, s)) = some pl →
      (List.mapM (fun f : Field => (Prod.mk f.offset <$> sizeOf f.type : Sem (Nat × Nat))) l).run P w = .ok pl w := by
    intro l
    induction l with
    | nil => intro pl h; simp at h; subst h; simp
    | cons f l ih =>
      intro pl h
      simp only [List.mapM_cons, Option.bind_eq_bind, Option.bind_eq_some_iff, Option.map_eq_some_iff, Option.pure_def, Option.some.injEq] at h
      obtain ⟨a, ⟨s, hs, rfl⟩, as, has, rfl⟩ := h
      simp [List.mapM_cons, run_sizeOf' hs, ih as has]
  exact key fs.toList pl h

theorem aOp_sound {o : Oper} {ev cev : Operand → Value} {v : Value} {ε : Eff} (h : GRep ρ g n w) (he : ∀ x, VRel ρ (szOf w) (ev x) (cev x)) (ha : aOp P o.type ev g n o.op = some (v, ε)) :
    OpDoes P ρ g n w (execOp cev o) v ε := by
  obtain ⟨dst, op, type, pos, after, guard⟩ := o
  simp only at ha
  unfold aOp at ha
  split at ha
  · -- move
    cases ha; exact OpDoes.val h (by simp [execOp]) (he _)
  · cases ha; exact OpDoes.val h (by simp [execOp]) (he _)
  · -- pick
    rename_i c a b
    have hc := he c
    split at ha
    · rename_i t ht
      cases ha
      rw [ht] at hc
      cases hcv : cev c <;> rw [hcv] at hc <;> cases hc
      refine OpDoes.val (cv := if t then cev a else cev b) h (by simp [execOp, hcv, asBool]) ?_
      cases t
      · exact he b
      · exact he a
    · cases ha
  · -- alloc
    rename_i t
    simp only [Option.map_eq_some_iff, Prod.mk.injEq] at ha
    obtain ⟨z, hz, rfl, rfl⟩ := ha
    obtain ⟨u, h1, rfl, h3⟩ := zeroFlat_run (w := w) hz
    refine OpDoes.ofTrans (cv := .pointer (some ⟨w.heap.size, 0, none⟩)) (w' := w.alloc (.cells u.cells t)) (ρ' := rset ρ n w.heap.size) ?_
      (Trans.new (w1 := w) h rfl rfl rfl rfl (.row _ _ _ _ _ (fun _ => rfl) (by simp) (by rw [List.take_of_length_le (Nat.le_refl _)]; exact all_flat_rel h3)) (.ptr _ _ _ (if_pos rfl)))
    simp [execOp, Instr.alloc, h1, newVar, newRow]
  · -- box
    rename_i t x
    split at ha
    · rename_i hj
      cases ha
      have hc := (he x).cells (not_junk hj)
      refine OpDoes.ofTrans (cv := .pointer (some ⟨w.heap.size, 0, none⟩)) (w' := w.alloc (.cells (cev x).cells t)) (ρ' := rset ρ n w.heap.size) ?_
        (Trans.new (w1 := w) h rfl rfl rfl rfl (.row _ _ _ _ _ (fun _ => rfl) (by have := hc.len; simp at this ⊢; omega) (by rw [hc.len, List.take_of_length_le (Nat.le_refl _)]; exact hc)) (.ptr _ _ _ (if_pos rfl)))
      simp [execOp, Instr.box, newVar, newRow]
    · cases ha
  · -- build
    rename_i t parts
    obtain ⟨hp1, hp2⟩ := parts_rel he parts.toList
    split at ha
    · rename_i z fs hz hu
      split at ha
      · rename_i pl hpl
        simp only [Option.map_eq_some_iff, Prod.mk.injEq] at ha
        obtain ⟨cs, hf, rfl, rfl⟩ := ha
        obtain ⟨u, h1, rfl, h3⟩ := zeroFlat_run (w := w) hz
        obtain ⟨cout, f1, f2⟩ := fill_sound (ρ := ρ) (sz := szOf w) _ _ _ _ _ _ (all_flat_rel h3) hp1 hp2 hf
        refine OpDoes.val (cv := .agg cout) h ?_ (.agg' (by simpa using f2))
        simp at f1
        simp [execOp, Instr.build, h1, run_underlying hu, Array.mapM_eq_mapM_toList, places_run (w := w) hu hpl, f1]
      · cases ha
    · rename_i z m el hz hu
      split at ha
      · rename_i s hs
        simp only [Option.map_eq_some_iff, Prod.mk.injEq] at ha
        obtain ⟨cs, hf, rfl, rfl⟩ := ha
        obtain ⟨u, h1, rfl, h3⟩ := zeroFlat_run (w := w) hz
        obtain ⟨cout, f1, f2⟩ := fill_sound (ρ := ρ) (sz := szOf w) _ _ _ _ _ _ (all_flat_rel h3) hp1 hp2 hf
        refine OpDoes.val (cv := .agg cout) h ?_ (.agg' (by simpa using f2))
        simp [execOp, Instr.build, h1, run_underlying hu, run_sizeOf' hs]
        simp at f1
        simp [f1]
      · cases ha
    · cases ha
  · -- buildSlice
    rename_i t len parts
    obtain ⟨hp1, hp2⟩ := parts_rel he parts.toList
    split at ha
    · rename_i el hu
      split at ha
      · rename_i z s hz hs
        split at ha
        · rename_i hok
          obtain ⟨hok, hbig⟩ := hok
          simp only [Option.map_eq_some_iff, Prod.mk.injEq] at ha
          obtain ⟨cs, hf, rfl, rfl⟩ := ha
          obtain ⟨u, h1, rfl, h3⟩ := zeroFlat_run (w := w) hz
          have hzs : u.cells.size = s := by simpa using hok
          obtain ⟨cout, f1, f2⟩ := fill_sound (ρ := ρ) (sz := szOf w) _ _ _ _ _ _ (zeroRow_rel h3 len) hp1 hp2 hf
          have hcl : ∀ (place : Nat → Option (Nat × Nat)) (parts : List (Nat × Value)) (cells out : List Value), aFill place cells parts = some out → out.length = cells.length := by
            intro place parts
            induction parts with
            | nil => intro cells out hh; simp [aFill] at hh; rw [hh]
            | cons p parts ih =>
              intro cells out hh
              obtain ⟨i, x⟩ := p
              simp only [aFill] at hh
              split at hh
              · cases hh
              · split at hh
                · rename_i hk
                  rw [ih _ _ hh, splice_length (by omega)]
                · cases hh
          have hlen : cs.length = len * s := by rw [hcl _ _ _ _ hf, zeroRow_length, Array.length_toList, hzs]
          have hclen : cout.size = len * s := by rw [← hlen, f2.len]; simp
          refine OpDoes.ofTrans (cv := .slice (some ⟨w.heap.size, 0, none⟩) len len) (w' := w.alloc (.cells cout el)) (ρ' := rset ρ n w.heap.size) ?_
            (new_row (w1 := w) h rfl rfl rfl rfl f2 (by rw [f2.len, List.take_of_length_le (Nat.le_refl _)]) (by rw [f2.len]; simp) (Nat.le_refl _) (by rw [hclen]; exact Nat.le_refl _))
          have hrow : (Array.range (len * s)).map (fun i => (if len * s = 0 then (#[] : Array Value) else u.cells)[i % (if len * s = 0 then (#[] : Array Value) else u.cells).size]!) = (zeroRow u.cells.toList len).toArray := by
            apply Array.ext'
            by_cases hce : len * s = 0
            · have : zeroRow u.cells.toList len = [] := List.eq_nil_of_length_eq_zero (by rw [zeroRow_length, Array.length_toList, hzs]; exact hce)
              rw [this, hce]; simp
            · simp only [if_neg hce]; rw [← hzs]; exact zeroRow_eq u.cells len
          have hbig' : ¬ (16777216 < len * s) := by omega
          by_cases hce : len * s = 0
          · simp only [hce, if_true] at hrow
            simp [execOp, Instr.buildSlice, run_underlying hu, run_sizeOf' hs, hce]
            simp at hrow
            rw [hrow]
            simp [f1, newRow]
          · simp only [if_neg hce] at hrow
            simp [execOp, Instr.buildSlice, run_underlying hu, run_sizeOf' hs, hbig']
            have hce' : ¬ (len = 0 ∨ s = 0) := by rw [← Nat.mul_eq_zero]; exact hce
            simp [hce', h1, hrow, f1, newRow]
            exact fun e => absurd e hce
        · cases ha
      · cases ha
    · cases ha
  · -- load
    simp only [Option.map_eq_some_iff, Prod.mk.injEq] at ha
    obtain ⟨u, hu, rfl, rfl⟩ := ha
    obtain ⟨cv, h1, h2⟩ := aLoad_sound h (he _) hu
    exact OpDoes.val h (by simp [execOp, h1]) h2
  · -- store
    simp only [Option.map_eq_some_iff, Prod.mk.injEq] at ha
    obtain ⟨u, hu, rfl, rfl⟩ := ha
    obtain ⟨w', ρ', h1, h2⟩ := aStore_sound h (he _) (he _) hu
    exact ⟨.skip, undef, w', ρ', by simp [execOp, h1], .inr ⟨rfl, rfl⟩, h2⟩
  · -- nilCheck
    rename_i x
    have hx := he x
    split at ha
    · rename_i a e
      cases ha
      rw [e] at hx
      cases hcv : cev x <;> rw [hcv] at hx <;> cases hx
      exact OpDoes.val (cv := cev x) h (by simp [execOp, hcv]) (by rw [hcv]; exact .ptr _ _ _ ‹_›)
    · rename_i f xs ys e
      cases ha
      rw [e] at hx
      cases hcv : cev x <;> rw [hcv] at hx <;> cases hx
      exact OpDoes.val (cv := cev x) h (by simp [execOp, hcv]) (by rw [hcv]; constructor <;> assumption)
    · cases ha
  · -- binOp
    simp only [Option.map_eq_some_iff, Prod.mk.injEq] at ha
    obtain ⟨u, hu, rfl, rfl⟩ := ha
    obtain ⟨h1, h2⟩ := aBin_sound (he _) (he _) hu w
    refine OpDoes.val h (cv := u) ?_ h2
    simp only [execOp, Sem.run_bind]
    simp only [Sem.run_bind] at h1
    rw [h1]; rfl
  · -- unOp
    split at ha
    · rename_i hf
      simp only [Option.map_eq_some_iff, Prod.mk.injEq] at ha
      obtain ⟨u, hu, rfl, rfl⟩ := ha
      obtain ⟨h1, h2⟩ := pureFlat_run hu w
      rw [← flat_eq (he _) hf] at h1
      exact OpDoes.val h (by simp [execOp, h1]) (pureV_rel h2)
    · cases ha
  · -- convert
    split at ha
    · rename_i hf
      simp only [Option.map_eq_some_iff, Prod.mk.injEq] at ha
      obtain ⟨u, hu, rfl, rfl⟩ := ha
      obtain ⟨h1, h2⟩ := pureFlat_run hu w
      rw [← flat_eq (he _) hf] at h1
      exact OpDoes.val h (by simp [execOp, h1]) (pureV_rel h2)
    · cases ha
  · -- makeFunc
    rename_i fn first captured
    cases ha
    refine OpDoes.val (cv := .func fn (first.map cev) (captured.map cev)) h (by simp [execOp, Instr.makeFunc]) (.func _ _ _ _ _ (by simp) (by simp) ?_ ?_)
    · intro i h1 h2; simp only [Array.getElem_map]; exact he _
    · intro i h1 h2; simp only [Array.getElem_map]; exact he _
  · -- makeSlice
    obtain ⟨cv, w', ρ', h1, h2⟩ := aMake_sound h (he _) (he _) ha
    exact OpDoes.ofTrans (by simp [execOp, h1]) h2
  · -- slice
    rename_i t x lo hi mx
    split at ha
    · rename_i hu
      split at ha
      · rename_i hf
        obtain ⟨f1, f2, f3, f4⟩ := hf
        simp only [Option.map_eq_some_iff, Prod.mk.injEq] at ha
        obtain ⟨u, hu', rfl, rfl⟩ := ha
        obtain ⟨h1, h2⟩ := pureFlat_run hu' w
        have e1 := flat_eq (he x) f1
        have e2 : lo.map cev = lo.map ev := by cases lo with
          | none => rfl
          | some y => simp at f2; simp [flat_eq (he y) f2]
        have e3 : hi.map cev = hi.map ev := by cases hi with
          | none => rfl
          | some y => simp at f3; simp [flat_eq (he y) f3]
        cases mx with
        | some y => simp at f4
        | none =>
        refine OpDoes.val h (cv := u) ?_ (pureV_rel h2)
        simp only [execOp, e1, e2, e3, Sem.run_bind, Instr.sliceAt, run_underlying hu, Result.andThen_ok, Option.map_none]
        rw [h1]; rfl
      · cases ha
    · simp only [Option.map_eq_some_iff, Prod.mk.injEq] at ha
      obtain ⟨u, hu, rfl, rfl⟩ := ha
      obtain ⟨cv, h1, h2⟩ := aSlice_sound (opt_rel he lo) (opt_rel he hi) (opt_rel he mx) (he x) h hu
      exact OpDoes.val h (by simp [execOp, h1]) h2
  · -- fieldAddr
    simp only [Option.map_eq_some_iff, Prod.mk.injEq] at ha
    obtain ⟨u, hu, rfl, rfl⟩ := ha
    obtain ⟨cv, h1, h2⟩ := aFieldAddr_sound (he _) hu w
    exact OpDoes.val h (by simp [execOp, h1]) h2
  · simp only [Option.map_eq_some_iff, Prod.mk.injEq] at ha
    obtain ⟨u, hu, rfl, rfl⟩ := ha
    obtain ⟨cv, h1, h2⟩ := aField_sound (he _) hu w
    exact OpDoes.val h (by simp [execOp, h1]) h2
  · simp only [Option.map_eq_some_iff, Prod.mk.injEq] at ha
    obtain ⟨u, hu, rfl, rfl⟩ := ha
    obtain ⟨cv, h1, h2⟩ := aIndexAddr_sound (he _) (he _) hu w
    exact OpDoes.val h (by simp [execOp, h1]) h2
  · simp only [Option.map_eq_some_iff, Prod.mk.injEq] at ha
    obtain ⟨u, hu, rfl, rfl⟩ := ha
    obtain ⟨cv, h1, h2⟩ := aIndex_sound (he _) (he _) hu w
    exact OpDoes.val h (by simp [execOp, h1]) h2
  · -- extract
    rename_i x i
    have hx := he x
    split at ha
    · rename_i vs e
      rw [e] at hx
      simp only [Option.map_eq_some_iff, Prod.mk.injEq] at ha
      obtain ⟨u, hu, rfl, rfl⟩ := ha
      obtain ⟨ys, hy, hys⟩ := hx.tuple_inv
      obtain ⟨y, hy1, hy2⟩ := hys.get hu
      refine OpDoes.val (cv := y) h ?_ hy2
      have : ys[i]? = some y := by simpa using hy1
      simp [execOp, hy, Instr.extract, this]
    · cases ha
  · -- call of a builtin
    rename_i c
    split at ha
    · rename_i b hb
      have := aBuiltin_sound h he ha (c.args.map fun | .const _ => true | _ => false)
      obtain ⟨callee, args, argTypes⟩ := c
      simp only at hb
      subst hb
      obtain ⟨r, cv, w', ρ', h1, h2⟩ := this
      exact ⟨r, cv, w', ρ', by simp only [execOp, resolve, invoke, Sem.run_bind, Sem.run_pure, Result.andThen_ok]; exact h1, h2⟩
    · cases ha
  · -- range
    obtain ⟨cv, w', ρ', h1, h2⟩ := aRange_sound h (he _) ha
    exact OpDoes.ofTrans (by simp [execOp, h1]) h2
  · -- next
    split at ha
    · rename_i hs
      subst hs
      obtain ⟨cv, w', ρ', h1, h2⟩ := aNext_sound (P := P) (ty := type) h (he _) ha
      exact OpDoes.ofTrans (by simp [execOp, h1]) h2
    · cases ha
  · -- makeMap
    obtain ⟨cv, w', ρ', h1, h2⟩ := aMakeMap_sound h (opt_rel he _) ha
    exact OpDoes.ofTrans (by simp [execOp, h1]) h2
  · -- lookup
    simp only [Option.map_eq_some_iff, Prod.mk.injEq] at ha
    obtain ⟨u, hu, rfl, rfl⟩ := ha
    obtain ⟨cv, h1, h2⟩ := aLookup_sound h (he _) (he _) hu
    exact OpDoes.val h (by simp [execOp, h1]) h2
  · -- mapUpdate
    simp only [Option.map_eq_some_iff, Prod.mk.injEq] at ha
    obtain ⟨u, hu, rfl, rfl⟩ := ha
    obtain ⟨w', ρ', h1, h2⟩ := aMapPut_sound h (he _) (he _) (he _) hu
    exact ⟨.skip, undef, w', ρ', by simp [execOp, h1], .inr ⟨rfl, rfl⟩, h2⟩
  · -- makeInterface
    simp only [Option.map_eq_some_iff, Prod.mk.injEq] at ha
    obtain ⟨u, hu, rfl, rfl⟩ := ha
    obtain ⟨cv, h1, h2⟩ := aIface_sound (he _) hu
    exact OpDoes.val h (by simp [execOp, h1]) h2
  · cases ha
end
end Go.Proofs.YtkcahnefekkfaaaAbs

namespace Go.Proofs.YtkcahnefekkfaaaAbs
open Go Go.RowKit
variable [Base]

abbrev Regs := Nat → Value
def aEval (T : Regs) : Operand → Value
  | .tmp t => T t
  | .const v => if pureV v = true then v else junk
  | .global _ => junk
  | .func f => .func (.func f) #[] #[]
def upd (T : Regs) (d : Option Tmp) (v : Value) : Regs := match d with
  | some d => fun t => if t = d then v else T t
  | none => T

/-- What a function's run began with. -/
structure Ctx where
  P : Program
  nt : Nat
  ρ0 : Nat → Option Nat
  g0 : AMem
  n0 : Nat
  touch : Nat → Prop
  w0 : World
  ok : BaseOk ρ0 n0 touch w0

/-- May it be written? -/
def Ctx.may (X : Ctx) (i : Nat) : Prop := i < X.n0 → X.touch i

/-- The state of a function's run. -/
structure Cfg (X : Ctx) (T : Regs) (g : AMem) (n : Nat) (ρ : Nat → Option Nat) (a : Act) (w : World) : Prop where
  size : a.tmps.size = X.nt
  regs : ∀ t, VRel ρ (szOf w) (T t) (a.tmps.getD t undef)
  rep : GRep ρ g n w
  le : X.n0 ≤ n
  ext : ∀ i, i < X.n0 → ρ i = X.ρ0 i
  frame : Frame0 (fun b => ∃ i, i < X.n0 ∧ X.touch i ∧ X.ρ0 i = some b) X.w0 w
  fresh : ∀ j b, X.n0 ≤ j → ρ j = some b → X.w0.heap.size ≤ b ∨ ∃ i, i < X.n0 ∧ X.touch i ∧ X.ρ0 i = some b
  keep : ∀ i, i < X.n0 → X.g0 i = none → g i = none
  defers : a.defers = []

section
variable {X : Ctx} {T : Regs} {g : AMem} {n : Nat} {ρ : Nat → Option Nat} {a : Act} {w : World}

theorem Cfg.eval (h : Cfg X T g n ρ a w) (x : Operand) : VRel ρ (szOf w) (aEval T x) (a.eval x) := by
  cases x with
  | tmp t => exact h.regs t
  | const v =>
    simp only [aEval, Act.eval]
    split
    · exact pureV_rel ‹_›
    · exact .junk _
  | global g => exact .junk _
  | func f => exact .func _ _ _ _ _ rfl rfl (fun i h1 => by simp at h1) (fun i h1 => by simp at h1)

theorem getD_put (a : Act) (d : Tmp) (v : Value) (hd : d < a.tmps.size) (t : Nat) : (a.put (some d) v).tmps.getD t undef = if t = d then v else a.tmps.getD t undef := by
  simp only [Act.put, Array.getD_eq_getD_getElem?, Array.getElem?_setIfInBounds]
  by_cases h : d = t
  · subst h; simp [hd]
  · rw [if_neg h, if_neg (fun e => h e.symm)]

/-- A step of the run. -/
theorem Cfg.step {t : Nat → Prop} {v cv : Value} {g' : AMem} {n' : Nat} {w' : World} {ρ' : Nat → Option Nat} {dst : Option Tmp} (h : Cfg X T g n ρ a w) (ht : Trans t ρ g n w v g' n' cv w' ρ') (hm : ∀ i, t i → X.may i) (hd : ∀ d, dst = some d → d < X.nt) :
    Cfg X (upd T dst v) g' n' ρ' (a.put dst cv) w' := by
  have hext : ∀ i b, ρ i = some b → ρ' i = some b := fun i b hi => by rw [ht.ext i (h.rep.lt hi)]; exact hi
  have touched : ∀ i b, i < n → t i → ρ i = some b → X.w0.heap.size ≤ b ∨ ∃ i, i < X.n0 ∧ X.touch i ∧ X.ρ0 i = some b := fun i b hi hti hb => by
    by_cases hi0 : i < X.n0
    · exact .inr ⟨i, hi0, hm i hti hi0, by rw [← h.ext i hi0]; exact hb⟩
    · exact h.fresh i b (by omega) hb
  refine ⟨?_, ?_, ht.rep, Nat.le_trans h.le ht.le, fun i hi => by rw [ht.ext i (Nat.lt_of_lt_of_le hi h.le)]; exact h.ext i hi, ?_, ?_, fun i hi h0 => ht.keep i (Nat.lt_of_lt_of_le hi h.le) (h.keep i hi h0), ?_⟩
  · cases dst with
    | none => exact h.size
    | some d => simpa [Act.put] using h.size
  · intro t
    have hold := (h.regs t).mono hext ht.frame.cells
    cases dst with
    | none => exact hold
    | some d =>
      rw [getD_put a d cv (by rw [h.size]; exact hd d rfl) t]
      simp only [upd]
      split
      · exact ht.val
      · exact hold
  · refine h.frame.trans ht.frame fun b hb ⟨i, hi, hti, hib⟩ => ?_
    exact (touched i b hi hti hib).resolve_left (by omega)
  · intro j b hj hb
    by_cases hjn : j < n
    · rw [ht.ext j hjn] at hb; exact h.fresh j b hj hb
    · rcases ht.fresh j b (by omega) hb with hw | ⟨i, hi, hti, hib⟩
      · exact .inl (Nat.le_trans h.frame.size hw)
      · exact touched i b hi hti hib
  · cases dst <;> exact h.defers

/-- The package variables' blocks are as they were at the function's start. -/
theorem Cfg.base {t : Nat → Prop} (h : Cfg X T g n ρ a w) (hm : ∀ i, t i → X.may i) : BaseOk ρ n t w := by
  have out : ∀ b, (∃ i, i < X.n0 ∧ X.touch i ∧ X.ρ0 i = some b) → Base.K ≤ b := fun b ⟨i, h1, h2, h3⟩ => X.ok.out i b h1 h2 h3
  refine ⟨⟨fun b hb => ?_, Nat.le_trans X.ok.base.2 h.frame.size⟩, fun i b hi hti hb => ?_⟩
  · rw [h.frame.block b (Nat.lt_of_lt_of_le hb X.ok.base.2) fun hx => by have := out b hx; omega]
    exact X.ok.base.1 b hb
  · by_cases hi0 : i < X.n0
    · exact X.ok.out i b hi0 (hm i hti hi0) (by rw [← h.ext i hi0]; exact hb)
    · rcases h.fresh i b (by omega) hb with h1 | h1
      · exact Nat.le_trans X.ok.base.2 h1
      · exact out b h1
/-- A register that is passed over. -/
theorem Cfg.skip {dst : Option Tmp} (h : Cfg X T g n ρ a w) (hd : ∀ d, dst = some d → d < X.nt) : Cfg X (upd T dst undef) g n ρ (a.put dst undef) w :=
  h.step (t := fun _ => False) (Trans.stay h.rep (pureV_rel rfl) rfl rfl rfl rfl) (fun _ h => h.elim) hd
theorem Cfg.drew (h : Cfg X T g n ρ a w) : Cfg X T g n ρ a { w with drawn := w.drawn + 1 } := by
  have hs : szOf { w with drawn := w.drawn + 1 } = szOf w := szOf_same rfl
  exact ⟨h.size, by rw [hs]; exact h.regs, h.rep.same rfl, h.le, h.ext, h.frame.trans (Frame0.same (t := fun _ => False) rfl rfl rfl rfl) (fun _ _ h => h.elim), h.fresh, h.keep, h.defers⟩
end

/-! ### Calls -/
/-- A function of Go's, with a body. -/
def goFn (P : Program) (f : FuncId) : Bool := match P.funcs[f]? with
  | some fn => fn.body.isSome && !(fn.name == "runtime.NumGoroutine") || (extFn P f).isSome
  | none => false
def aCall (T : Regs) : Op → Option (FuncId × List Value)
  | .call c => match c.callee with
    | .value f => match aEval T f with
      | .func (.func k) first captured => some (k, first.toList ++ c.args.toList.map (aEval T) ++ captured.toList)
      | _ => none
    | _ => none
  | _ => none

/-- A function that the model knows, and that asks for nothing but its arguments. -/
theorem fnC_ext {P : Program} {f : FuncId} {e : Array Value → Sem Value} {args : List Value} {v : Value} {g : AMem} {n : Nat} (he : extFn P f = some e) (hf : args.all flatV = true) (hp : pureFlat P (e args.toArray) = some v) : FnC P f args g n (fun _ => False) v g n := by
  intro ρ w cargs hbase hrep hargs
  unfold CallsX
  rw [he]
  obtain rfl : cargs = args.toArray := by
    apply Array.ext'
    rw [flat_list_eq hargs hf]
  obtain ⟨h1, h2⟩ := pureFlat_run hp w
  exact ⟨v, h1, v, ρ, rfl, Trans.stay hrep (pureV_rel h2) rfl rfl rfl rfl⟩
section
variable {X : Ctx} {T : Regs} {g : AMem} {n : Nat} {ρ : Nat → Option Nat} {a : Act} {w : World}
theorem aCall_run {o : Oper} {f : FuncId} {args : List Value} (h : Cfg X T g n ρ a w) (hc : aCall T o.op = some (f, args)) (hf : goFn X.P f = true) :
    ∃ cargs : Array Value, (extFn X.P f = none ∧ (execOp a.eval o).run X.P w = .ok (.enter f cargs) w ∨ ∃ e, extFn X.P f = some e ∧ (execOp a.eval o).run X.P w = ((e cargs).run X.P w).andThen fun v w' => .ok (.value v) w') ∧ VRs ρ (szOf w) args cargs.toList := by
  unfold aCall at hc
  split at hc
  · rename_i c hop
    split at hc
    · rename_i fo hcal
      have hfo := h.eval fo
      split at hc
      · rename_i k first captured hev
        cases hc
        rw [hev] at hfo
        cases hcv : a.eval fo <;> rw [hcv] at hfo <;> cases hfo
        rename_i first' captured' e1 e2 e3 e4
        refine ⟨first' ++ c.args.map a.eval ++ captured', ?_, ?_⟩
        · unfold goFn at hf
          split at hf
          · rename_i fn hfn
            simp only [Bool.or_eq_true, Bool.and_eq_true, Bool.not_eq_true'] at hf
            cases hx : extFn X.P f with
            | none =>
              rw [hx] at hf
              obtain ⟨hf1, hf2⟩ := hf.resolve_right (by simp)
              have hb : ¬ fn.body = none := fun e => by simp [e] at hf1
              have hne : ¬ fn.name = "runtime.NumGoroutine" := by simpa using hf2
              exact .inl ⟨rfl, by simp [execOp, hop, resolve, hcal, hcv, Deferred.ofValue, invoke, callFunc, hfn, hne, hb]⟩
            | some e =>
              refine .inr ⟨e, rfl, ?_⟩
              unfold extFn at hx
              simp only [hfn] at hx
              split at hx
              · rename_i hc
                simp only [Bool.and_eq_true, Bool.not_eq_true'] at hc
                have h1 := run_callFunc_extern hfn hc.1.2 hc.1.1 (by simpa using hc.2) hx (first' ++ c.args.map a.eval ++ captured') w
                simp only [execOp, hop, resolve, hcal, hcv, Deferred.ofValue, invoke, Sem.run_bind, Sem.run_pure, Result.andThen_ok]
                exact h1
              · cases hx
          · cases hf
        · simp only [Array.toList_append, Array.toList_map]
          refine (VRs.append ⟨by simpa using e1, fun i h1 h2 => e2 i (by simpa using h1) (by simpa using h2)⟩ ⟨by simp, fun i h1 h2 => ?_⟩).append ⟨by simpa using e3, fun i h1 h2 => e4 i (by simpa using h1) (by simpa using h2)⟩
          simp only [List.getElem_map]
          exact h.eval _
      · cases hc
    · cases hc
  · cases hc
end

/-! ### One operation's step -/
def Step (P : Program) (may : Nat → Prop) (o : Oper) (T : Regs) (g : AMem) (n : Nat) (v : Value) (g' : AMem) (n' : Nat) : Prop :=
  (∃ ε, aCall T o.op = none ∧ aOp P o.type (aEval T) g n o.op = some (v, ε) ∧ (∀ i, ε.touch i → may i) ∧ g' = ε.mem g n ∧ n' = ε.next n) ∨
  (∃ f args t, aCall T o.op = some (f, args) ∧ goFn P f = true ∧ FnC P f args g n t v g' n' ∧ ∀ i, t i → may i)

theorem Step.wp {X : Ctx} {o : Oper} {T : Regs} {g : AMem} {n : Nat} {v : Value} {g' : AMem} {n' : Nat} {ρ : Nat → Option Nat} {a : Act} {w : World} {K : Act → World → Prop} {Q : Exit → Act → World → Prop}
    (hs : Step X.P X.may o T g n v g' n') (h : Cfg X T g n ρ a w) (hd : ∀ d, o.dst = some d → d < X.nt)
    (hK : ∀ cv w' ρ', Cfg X (upd T o.dst v) g' n' ρ' (a.put o.dst cv) w' → K (a.put o.dst cv) w') : o.wp X.P a w K Q := by
  rcases hs with ⟨ε, _, h1, h2, rfl, rfl⟩ | ⟨f, args, t, h1, h2, h3, h4⟩
  · obtain ⟨r, cv, w', ρ', e1, e2, e3⟩ := aOp_sound h.rep h.eval h1
    have hc := h.step e3 h2 hd
    unfold Oper.wp
    rw [e1]
    rcases e2 with rfl | ⟨rfl, rfl⟩
    · exact hK _ _ _ hc
    · exact hK _ _ _ hc
  · obtain ⟨cargs, e1, e2⟩ := aCall_run h h1 h2
    have hx := h3 ρ w cargs (h.base h4) h.rep e2
    rcases e1 with ⟨e0, e1⟩ | ⟨e, e0, e1⟩
    · unfold Oper.wp
      rw [e1]
      refine (hx.to e0).mono fun e w' he => ?_
      obtain ⟨cv, ρ', rfl, ht⟩ := he
      exact hK _ _ _ (h.step ht h4 hd)
    · unfold CallsX at hx
      rw [e0] at hx
      obtain ⟨cv, hr, cv', ρ', hcv, ht⟩ := hx
      cases hcv
      unfold Oper.wp
      rw [e1, hr]
      exact hK _ _ _ (h.step ht h4 hd)

/-! ### Operands decide -/
theorem aOp_congr {P : Program} {ty : TypeId} {e1 e2 : Operand → Value} {g : AMem} {n : Nat} (op : Op) (h : ∀ x ∈ op.operands, e1 x = e2 x) : aOp P ty e1 g n op = aOp P ty e2 g n op := by
  have pairs : ∀ ps : Array (Nat × Operand), (∀ x ∈ (ps.toList.map (·.2)).toArray, e1 x = e2 x) →
      (ps.toList.map fun p => (p.1, e1 p.2)) = (ps.toList.map fun p => (p.1, e2 p.2)) := fun ps hp =>
    List.map_congr_left fun p hm => by rw [hp p.2 (by simpa using ⟨p.1, by simpa using hm⟩)]
  cases op with
  | call c =>
    obtain ⟨callee, args, argTypes⟩ := c
    cases callee with
    | builtin b =>
      simp only [Op.operands, Call.operands, Array.empty_append] at h
      have hargs : args.map e1 = args.map e2 := Array.map_congr_left fun x hx => h x (by simpa using hx)
      have hall : ∀ xs : List Operand, args.toList = xs → xs.all (fun x => flatV (e1 x)) = xs.all (fun x => flatV (e2 x)) := fun xs hx => by
        subst hx
        rw [Bool.eq_iff_iff, List.all_eq_true, List.all_eq_true]
        exact ⟨fun k x hx => by rw [← h x (by simpa using hx)]; exact k x hx, fun k x hx => by rw [h x (by simpa using hx)]; exact k x hx⟩
      have hmem : ∀ x, x ∈ args.toList → e1 x = e2 x := fun x hx => h x (by simpa using hx)
      simp only [aOp, aBuiltin]
      split <;> first
        | rfl
        | (simp only [hargs, hall _ rfl]; done)
        | (rename_i heq1 heq2; rw [hmem _ (by rw [heq1]; simp)]; done)
        | (rename_i heq1 heq2; rw [hmem _ (by rw [heq1]; exact List.mem_cons_self), hmem _ (by rw [heq1]; exact List.mem_cons_of_mem _ List.mem_cons_self)]; done)
    | _ => rfl
  | build t ps => simp only [Op.operands] at h; simp only [aOp, pairs ps h]
  | buildSlice t k ps => simp only [Op.operands] at h; simp only [aOp, pairs ps h]
  | slice t x lo hi mx => cases lo <;> cases hi <;> cases mx <;> (simp [Op.operands] at h; simp_all [aOp])
  | makeFunc fn first captured =>
    simp only [Op.operands] at h
    have h1 : first.map e1 = first.map e2 := Array.map_congr_left fun x hx => h x (by simp [hx])
    have h2 : captured.map e1 = captured.map e2 := Array.map_congr_left fun x hx => h x (by simp [hx])
    simp only [aOp, h1, h2]
  | makeMap t r => cases r <;> first | rfl | (simp [Op.operands] at h; simp_all [aOp])
  | _ => first | rfl | (simp [Op.operands] at h; simp_all [aOp])
end Go.Proofs.YtkcahnefekkfaaaAbs

namespace Go.Proofs.YtkcahnefekkfaaaAbs
open Go Go.RowKit
variable [Base]

/-! ### Guards -/
def aWanted (ops : Array Oper) (T : Regs) (o : Oper) : Option Bool := match o.guard with
  | none => some true
  | some (j, want) => match (ops[j]?).bind (·.dst) with
    | none => some false
    | some d => match T d with
      | .bool b => some (b == want)
      | .tuple _ => some false
      | _ => none
theorem aWanted_sound {X : Ctx} {ops : Array Oper} {T : Regs} {o : Oper} {b : Bool} {g : AMem} {n : Nat} {ρ : Nat → Option Nat} {a : Act} {w : World} (h : Cfg X T g n ρ a w) (hw : aWanted ops T o = some b) : Region.wanted o (yielded ops a.tmps) = b := by
  unfold aWanted at hw
  unfold Region.wanted
  split at hw
  · rename_i hg; cases hw; simp [hg]
  · rename_i j want hg
    simp only [hg]
    unfold yielded
    split at hw
    · rename_i hd; cases hw; simp [hd]
    · rename_i d hd
      have hr := h.regs d
      simp only [hd, Option.bind_some]
      rw [Array.getD_eq_getD_getElem?] at hr
      cases htm : a.tmps[d]? with
      | none =>
        rw [htm] at hr
        split at hw
        · rename_i b' hb; rw [hb] at hr; cases hr
        · cases hw; simp
        · cases hw
      | some cv =>
        rw [htm] at hr
        split at hw
        · rename_i b' hb; rw [hb] at hr; cases hw; cases hcv : cv <;> rw [hcv] at hr <;> cases hr; simp
        · rename_i vs hb; rw [hb] at hr; cases hw; cases hcv : cv <;> rw [hcv] at hr <;> cases hr; simp
        · cases hw

/-! ### Which operation waits for which -/
def maskOf (acc : List Nat) (o : Oper) : Nat := o.after.toList.foldl (fun s e => if Region.binds .any e then s ||| (2 ^ e.on ||| acc.getD e.on 0) else s) 0
def masksAux (acc : List Nat) : List Oper → List Nat
  | [] => acc
  | o :: r => masksAux (acc ++ [maskOf acc o]) r
def masks (ops : List Oper) : List Nat := masksAux [] ops
def pre (ops : Array Oper) (i j : Nat) : Bool := ((masks ops.toList).getD i 0).testBit j

theorem masksAux_spec : ∀ (l : List Oper) (acc : List Nat), (masksAux acc l).length = acc.length + l.length ∧ (masksAux acc l).take acc.length = acc ∧
    ∀ (i : Nat) (hi : i < l.length), (masksAux acc l)[acc.length + i]? = some (maskOf ((masksAux acc l).take (acc.length + i)) l[i])
  | [], acc => by simp [masksAux]
  | o :: r, acc => by
    obtain ⟨h1, h2, h3⟩ := masksAux_spec r (acc ++ [maskOf acc o])
    simp only [masksAux]
    simp only [List.length_append, List.length_cons, List.length_nil, Nat.zero_add] at h1 h2 h3
    have ht : (masksAux (acc ++ [maskOf acc o]) r).take acc.length = acc := by
      have := congrArg (List.take acc.length) h2
      rw [List.take_take] at this
      simpa using this
    refine ⟨by rw [h1]; simp; omega, ht, fun i hi => ?_⟩
    cases i with
    | zero =>
      rw [Nat.add_zero, ht]
      have := congrArg (fun l => l[acc.length]?) h2
      simp only [List.getElem?_take] at this
      simpa using this
    | succ i =>
      have := h3 i (by simpa using hi)
      rw [show acc.length + (i + 1) = acc.length + 1 + i by omega]
      simpa using this

theorem mask_bit {acc : List Nat} {o : Oper} {j : Nat} (h : (maskOf acc o).testBit j = true) :
    ∃ e ∈ o.after, Region.binds .any e = true ∧ (j = e.on ∨ (acc.getD e.on 0).testBit j = true) := by
  unfold maskOf at h
  have key : ∀ (l : List Edge) (s : Nat), (l.foldl (fun s e => if Region.binds .any e then s ||| (2 ^ e.on ||| acc.getD e.on 0) else s) s).testBit j = true →
      s.testBit j = true ∨ ∃ e ∈ l, Region.binds .any e = true ∧ (j = e.on ∨ (acc.getD e.on 0).testBit j = true) := by
    intro l
    induction l with
    | nil => intro s hs; exact .inl hs
    | cons e l ih =>
      intro s hs
      simp only [List.foldl_cons] at hs
      rcases ih _ hs with h1 | ⟨e', he', h2⟩
      · by_cases hb : Region.binds .any e = true
        · rw [if_pos hb] at h1
          simp only [Nat.testBit_or, Bool.or_eq_true] at h1
          rcases h1 with h1 | h1 | h1
          · exact .inl h1
          · refine .inr ⟨e, by simp, hb, .inl ?_⟩
            rw [Nat.testBit_two_pow] at h1
            exact (by simpa using h1 : e.on = j).symm
          · exact .inr ⟨e, by simp, hb, .inr h1⟩
        · rw [if_neg hb] at h1; exact .inl h1
      · exact .inr ⟨e', by simp [he'], h2⟩
  rcases key _ _ h with h | ⟨e, he, h⟩
  · simp at h
  · exact ⟨e, by simpa using he, h⟩

/-- Whoever waits for no one but those that have been: all that it waits for, through others too, has been. -/
theorem pre_closed {ops : Array Oper} {D : Nat → Prop} (hlt : ∀ (i : Nat) (o : Oper), ops[i]? = some o → ∀ e ∈ o.after, Region.binds .any e = true → e.on < i)
    (hc : ∀ (i : Nat) (o : Oper), ops[i]? = some o → D i → ∀ e ∈ o.after, Region.binds .any e = true → D e.on) :
    ∀ (i : Nat) (o : Oper), ops[i]? = some o → (∀ e ∈ o.after, Region.binds .any e = true → D e.on) → ∀ j, pre ops i j = true → D j := by
  intro i
  induction i using Nat.strongRecOn with
  | _ i ih =>
    intro o ho hd j hj
    obtain ⟨h1, _, h3⟩ := masksAux_spec ops.toList []
    have hi : i < ops.toList.length := by simpa using (Array.getElem?_eq_some_iff.1 ho).1
    have hm := h3 i hi
    simp only [List.length_nil, Nat.zero_add] at hm
    have hoi : ops.toList[i] = o := by
      have := ho
      rw [Array.getElem?_eq_some_iff] at this
      obtain ⟨_, h⟩ := this
      simpa using h
    unfold pre masks at hj
    rw [List.getD_eq_getElem?_getD, hm, hoi] at hj
    simp only [Option.getD_some] at hj
    obtain ⟨e, he, hb, hj⟩ := mask_bit hj
    have hei := hlt i o ho e he hb
    rcases hj with rfl | hj
    · exact hd e he hb
    · have : ((masksAux [] ops.toList).take i).getD e.on 0 = (masksAux [] ops.toList).getD e.on 0 := by
        simp [List.getD_eq_getElem?_getD, List.getElem?_take, hei]
      rw [this] at hj
      have hle : e.on < ops.size := by
        have := (Array.getElem?_eq_some_iff.1 ho).1
        omega
      exact ih e.on hei ops[e.on] (Array.getElem?_eq_getElem hle) (hc e.on _ (Array.getElem?_eq_getElem hle) (hd e he hb)) j hj
end Go.Proofs.YtkcahnefekkfaaaAbs

namespace Go.Proofs.YtkcahnefekkfaaaAbs
open Go Go.RowKit
variable [Base]

/-- It asks the heap nothing, and does nothing to it. -/
def pureOp : Op → Bool
  | .move _ | .assign _ | .pick .. | .build .. | .nilCheck _ | .binOp .. | .unOp .. | .convert .. | .makeFunc .. | .fieldAddr .. | .field .. | .indexAddr .. | .index .. | .extract .. => true
  | .call { callee := .builtin b, .. } => match b with
    | .len | .max | .min | .real | .imag | .complex => true
    | _ => false
  | _ => false
theorem aOp_pure {P : Program} {ty : TypeId} {ev : Operand → Value} {g : AMem} {n : Nat} {op : Op} {v : Value} {ε : Eff} (hp : pureOp op = true) (h : aOp P ty ev g n op = some (v, ε)) :
    ε = .none ∧ ∀ g' n', aOp P ty ev g' n' op = some (v, .none) := by
  cases op with
  | call c =>
    obtain ⟨callee, args, argTypes⟩ := c
    cases callee with
    | builtin b =>
      simp only [aOp, aBuiltin] at h ⊢
      split at h <;> simp only [pureOp] at hp <;> first
        | (cases hp; done)
        | (cases h; done)
        | (split at h
           · simp only [Option.map_eq_some_iff, Prod.mk.injEq] at h
             obtain ⟨u, hu, rfl, rfl⟩ := h
             exact ⟨rfl, fun g' n' => by simp_all⟩
           · cases h)
        | (simp only [Option.map_eq_some_iff, Prod.mk.injEq] at h
           obtain ⟨u, hu, rfl, rfl⟩ := h
           exact ⟨rfl, fun g' n' => by simp_all⟩)
    | _ => simp [pureOp] at hp
  | move x => simp only [aOp, Option.some.injEq, Prod.mk.injEq] at h; obtain ⟨rfl, rfl⟩ := h; exact ⟨rfl, fun _ _ => rfl⟩
  | assign x => simp only [aOp, Option.some.injEq, Prod.mk.injEq] at h; obtain ⟨rfl, rfl⟩ := h; exact ⟨rfl, fun _ _ => rfl⟩
  | pick c a b =>
    simp only [aOp] at h ⊢
    split at h
    · cases h; exact ⟨rfl, fun _ _ => by simp_all⟩
    · cases h
  | build t ps =>
    simp only [aOp] at h ⊢
    split at h
    · split at h
      · simp only [Option.map_eq_some_iff, Prod.mk.injEq] at h
        obtain ⟨u, hu, rfl, rfl⟩ := h
        exact ⟨rfl, fun _ _ => by simp_all⟩
      · cases h
    · split at h
      · simp only [Option.map_eq_some_iff, Prod.mk.injEq] at h
        obtain ⟨u, hu, rfl, rfl⟩ := h
        exact ⟨rfl, fun _ _ => by simp_all⟩
      · cases h
    · cases h
  | nilCheck x =>
    simp only [aOp] at h ⊢
    split at h <;> first | (cases h; exact ⟨rfl, fun _ _ => by simp_all⟩) | cases h
  | makeFunc fn a b => simp only [aOp, Option.some.injEq, Prod.mk.injEq] at h; obtain ⟨rfl, rfl⟩ := h; exact ⟨rfl, fun _ _ => rfl⟩
  | extract x i =>
    simp only [aOp] at h ⊢
    split at h
    · simp only [Option.map_eq_some_iff, Prod.mk.injEq] at h
      obtain ⟨u, hu, rfl, rfl⟩ := h
      exact ⟨rfl, fun _ _ => by simp_all⟩
    · cases h
  | unOp op t x =>
    simp only [aOp] at h ⊢
    split at h
    · simp only [Option.map_eq_some_iff, Prod.mk.injEq] at h
      obtain ⟨u, hu, rfl, rfl⟩ := h
      exact ⟨rfl, fun _ _ => by simp_all⟩
    · cases h
  | convert s d x =>
    simp only [aOp] at h ⊢
    split at h
    · simp only [Option.map_eq_some_iff, Prod.mk.injEq] at h
      obtain ⟨u, hu, rfl, rfl⟩ := h
      exact ⟨rfl, fun _ _ => by simp_all⟩
    · cases h
  | binOp | fieldAddr | field | indexAddr | index =>
    simp only [aOp, Option.map_eq_some_iff, Prod.mk.injEq] at h ⊢
    obtain ⟨u, hu, rfl, rfl⟩ := h
    exact ⟨rfl, fun _ _ => ⟨_, hu, by simp⟩⟩
  | _ => simp [pureOp] at hp

/-- Ordered with regard to all others that ask the heap, or do something to it. -/
def ordB (ops : Array Oper) (i : Nat) : Bool := (List.range ops.size).all fun j => j == i || (match ops[j]? with | some o => pureOp o.op | none => true) || (if j < i then pre ops i j else pre ops j i)
/-- What must hold of a region's text. -/
def drawOk (ops : Array Oper) : Bool :=
  Region.noSelect ops &&
  ((List.range ops.size).all fun i => match ops[i]? with
    | none => true
    | some oi => oi.after.all (fun e => !Region.binds .any e || e.on < i) &&
      (match oi.dst with
       | none => true
       | some t => (List.range ops.size).all fun j => j == i || match ops[j]? with
         | none => true
         | some oj => oj.dst != some t && (!(oj.looksAt ops).contains t || pre ops i j || pre ops j i)))

theorem drawOk_lt {ops : Array Oper} (h : drawOk ops = true) (i : Nat) (o : Oper) (ho : ops[i]? = some o) : ∀ e ∈ o.after, Region.binds .any e = true → e.on < i := by
  simp only [drawOk, Bool.and_eq_true, List.all_eq_true, List.mem_range] at h
  have hi := (Array.getElem?_eq_some_iff.1 ho).1
  have := h.2 i hi
  simp only [ho, Bool.and_eq_true, Array.all_eq_true_iff_forall_mem, Bool.or_eq_true, Bool.not_eq_true', decide_eq_true_eq] at this
  intro e he hb
  rcases this.1 e he with h' | h'
  · rw [hb] at h'; cases h'
  · exact h'
theorem drawOk_dst {ops : Array Oper} (h : drawOk ops = true) {i j : Nat} {oi oj : Oper} {t : Tmp} (hi : ops[i]? = some oi) (hj : ops[j]? = some oj) (hne : j ≠ i) (ht : oi.dst = some t) :
    oj.dst ≠ some t ∧ (t ∈ oj.looksAt ops → pre ops i j = true ∨ pre ops j i = true) := by
  simp only [drawOk, Bool.and_eq_true, List.all_eq_true, List.mem_range] at h
  have hi' := (Array.getElem?_eq_some_iff.1 hi).1
  have hj' := (Array.getElem?_eq_some_iff.1 hj).1
  have := h.2 i hi'
  simp only [hi, ht, Bool.and_eq_true, List.all_eq_true, List.mem_range] at this
  have := this.2 j hj'
  simp only [hj, Bool.or_eq_true, beq_iff_eq, hne, false_or, Bool.and_eq_true, bne_iff_ne, Bool.not_eq_true', List.contains_eq_mem, decide_eq_false_iff_not] at this
  refine ⟨this.1, fun hm => ?_⟩
  rcases this.2 with (h' | h') | h'
  · exact absurd hm h'
  · exact .inl h'
  · exact .inr h'

theorem aWanted_congr {ops : Array Oper} {T T' : Regs} {o : Oper} (h : ∀ t ∈ o.looksAt ops, T t = T' t) : aWanted ops T o = aWanted ops T' o := by
  unfold aWanted
  cases hg : o.guard with
  | none => rfl
  | some p =>
    obtain ⟨j, want⟩ := p
    simp only
    cases hd : (ops[j]?).bind (·.dst) with
    | none => rfl
    | some d =>
      simp only
      rw [h d (by simp [Oper.looksAt, hg, hd])]
theorem eval_congr {ops : Array Oper} {T T' : Regs} {o : Oper} (h : ∀ t ∈ o.looksAt ops, T t = T' t) : ∀ x ∈ o.op.operands, aEval T x = aEval T' x := by
  intro x hx
  cases x with
  | tmp t => exact h t (List.mem_append_left _ (List.mem_filterMap.2 ⟨.tmp t, by simpa using hx, rfl⟩))
  | _ => rfl
theorem aCall_congr {T T' : Regs} {op : Op} (h : ∀ x ∈ op.operands, aEval T x = aEval T' x) : aCall T op = aCall T' op := by
  unfold aCall
  split
  · rename_i c
    split
    · rename_i f hf
      simp only [Op.operands, Call.operands, hf] at h
      rw [h f (by simp)]
      have : c.args.toList.map (aEval T) = c.args.toList.map (aEval T') := List.map_congr_left fun x hx => h x (by simp at hx ⊢; exact .inr hx)
      rw [this]
    · rfl
  · rfl
theorem Step.congr {P : Program} {may : Nat → Prop} {ops : Array Oper} {o : Oper} {T T' : Regs} {g : AMem} {n : Nat} {v : Value} {g' : AMem} {n' : Nat} (hs : Step P may o T g n v g' n') (h : ∀ t ∈ o.looksAt ops, T t = T' t) : Step P may o T' g n v g' n' := by
  have he := eval_congr h
  rcases hs with ⟨ε, h1, h2, h3⟩ | ⟨f, args, t, h1, h2⟩
  · exact .inl ⟨ε, by rw [← aCall_congr he]; exact h1, by rw [← aOp_congr o.op he]; exact h2, h3⟩
  · exact .inr ⟨f, args, t, by rw [← aCall_congr he]; exact h1, h2⟩
theorem aCall_not_pure {T : Regs} {op : Op} {x : FuncId × List Value} (h : aCall T op = some x) : pureOp op = false := by
  unfold aCall at h
  split at h
  · rename_i c
    obtain ⟨callee, args, argTypes⟩ := c
    cases callee <;> first | rfl | cases h
  · cases h

/-! ### A region as the text has it -/
abbrev St := Regs × AMem × Nat
/-- What is known of operation 'i', the states ahead of it and behind it given. -/
def Rec (P : Program) (may : Nat → Prop) (ops : Array Oper) (draw : Bool) (i : Nat) (s : St) (v : Value) (s' : St) : Prop :=
  ∃ o b, ops[i]? = some o ∧ aWanted ops s.1 o = some b ∧ (b = true → Step P may o s.1 s.2.1 s.2.2 v s'.2.1 s'.2.2) ∧ (b = false → v = undef ∧ s'.2 = s.2) ∧
    s'.1 = upd s.1 o.dst v ∧ ((draw = false ∨ ordB ops i = true) ∨ s'.2 = s.2)

section
variable {P : Program} {may : Nat → Prop} {ops : Array Oper} {st : Nat → St} {vs : Nat → Value}

/-- The registers when those of D have been carried out. -/
noncomputable def TD (ops : Array Oper) (T0 : Regs) (vs : Nat → Value) (D : Nat → Prop) : Regs := fun t =>
  @dite _ (∃ j o, ops[j]? = some o ∧ D j ∧ o.dst = some t) (Classical.propDecidable _) (fun h => vs h.choose) (fun _ => T0 t)
theorem TD_at (hok : drawOk ops = true) {T0 : Regs} {D : Nat → Prop} {j : Nat} {o : Oper} {t : Tmp} (ho : ops[j]? = some o) (hD : D j) (ht : o.dst = some t) : TD ops T0 vs D t = vs j := by
  unfold TD
  have hex : ∃ j o, ops[j]? = some o ∧ D j ∧ o.dst = some t := ⟨j, o, ho, hD, ht⟩
  rw [dif_pos hex]
  obtain ⟨o', h1, h2, h3⟩ := hex.choose_spec
  by_cases e : hex.choose = j
  · rw [e]
  · exact absurd h3 (drawOk_dst hok ho h1 e ht).1
theorem TD_not {T0 : Regs} {D : Nat → Prop} {t : Tmp} (h : ∀ j o, ops[j]? = some o → D j → o.dst ≠ some t) : TD ops T0 vs D t = T0 t := by
  unfold TD
  rw [dif_neg]
  rintro ⟨j, o, h1, h2, h3⟩
  exact h j o h1 h2 h3
theorem TD_eq (hok : drawOk ops = true) {T0 : Regs} {D D' : Nat → Prop} {t : Tmp} (h : ∀ j o, ops[j]? = some o → o.dst = some t → (D j ↔ D' j)) : TD ops T0 vs D t = TD ops T0 vs D' t := by
  by_cases hex : ∃ j o, ops[j]? = some o ∧ D j ∧ o.dst = some t
  · obtain ⟨j, o, h1, h2, h3⟩ := hex
    rw [TD_at hok h1 h2 h3, TD_at hok h1 ((h j o h1 h3).1 h2) h3]
  · rw [TD_not fun j o h1 h2 h3 => hex ⟨j, o, h1, h2, h3⟩, TD_not fun j o h1 h2 h3 => hex ⟨j, o, h1, (h j o h1 h3).2 h2, h3⟩]
theorem TD_add (hok : drawOk ops = true) {T0 : Regs} {D : Nat → Prop} {i : Nat} {o : Oper} (ho : ops[i]? = some o) (hD : ¬ D i) : TD ops T0 vs (fun j => D j ∨ j = i) = upd (TD ops T0 vs D) o.dst (vs i) := by
  funext t
  cases hd : o.dst with
  | none =>
    simp only [upd]
    exact TD_eq hok fun j o' h1 h2 => ⟨fun h => h.resolve_right fun e => (by subst e; rw [ho] at h1; cases h1; rw [hd] at h2; cases h2), Or.inl⟩
  | some d =>
    simp only [upd]
    by_cases e : t = d
    · subst e; rw [if_pos rfl]; exact TD_at hok ho (.inr rfl) hd
    · rw [if_neg e]
      exact TD_eq hok fun j o' h1 h2 => ⟨fun h => h.resolve_right fun e' => (by subst e'; rw [ho] at h1; cases h1; rw [hd] at h2; cases h2; exact e rfl), Or.inl⟩

theorem regs_prefix (hok : drawOk ops = true) {draw : Bool} (hrec : ∀ i, i < ops.size → Rec P may ops draw i (st i) (vs i) (st (i + 1))) : ∀ i, i ≤ ops.size → (st i).1 = TD ops (st 0).1 vs (fun j => j < i) := by
  intro i
  induction i with
  | zero => intro _; funext t; rw [TD_not fun j o _ h => absurd h (Nat.not_lt_zero _)]
  | succ i ih =>
    intro hi
    obtain ⟨o, b, h1, h2, h3, h4, h5, h6⟩ := hrec i (by omega)
    rw [h5, ih (by omega), ← TD_add (D := fun j => j < i) hok h1 (Nat.lt_irrefl _)]
    congr 1
    funext j
    exact propext ⟨fun h => by rcases h with h | h <;> omega, fun h => by omega⟩

/-- Where nothing has turned between two places the heaps are one. -/
theorem heap_same (k m : Nat) (hk : k ≤ ops.size) (hm : m ≤ ops.size) (h : ∀ c, c < ops.size → (st (c + 1)).2 ≠ (st c).2 → (c < k ↔ c < m)) : (st k).2 = (st m).2 := by
  have key : ∀ d k, k + d ≤ ops.size → (∀ c, k ≤ c → c < k + d → (st (c + 1)).2 = (st c).2) → (st (k + d)).2 = (st k).2 := by
    intro d
    induction d with
    | zero => intro k _ _; rfl
    | succ d ih =>
      intro k hk h
      have := h (k + d) (by omega) (by omega)
      rw [show k + (d + 1) = k + d + 1 by omega, this]
      exact ih k (by omega) fun c h1 h2 => h c h1 (by omega)
  rcases Nat.le_total k m with hkm | hkm
  · have := key (m - k) k (by omega) fun c h1 h2 => by
      by_cases e : (st (c + 1)).2 = (st c).2
      · exact e
      · have := (h c (by omega) e).2 (by omega); omega
    rw [show k + (m - k) = m by omega] at this
    exact this.symm
  · have := key (k - m) m (by omega) fun c h1 h2 => by
      by_cases e : (st (c + 1)).2 = (st c).2
      · exact e
      · have := (h c (by omega) e).1 (by omega); omega
    rw [show m + (k - m) = k by omega] at this
    exact this

/-- How many have not come up. -/
def cntU (D : Nat → Bool) : Nat → Nat
  | 0 => 0
  | n + 1 => cntU D n + if D n then 0 else 1
theorem cntU_zero {D : Nat → Bool} {n : Nat} (h : cntU D n = 0) : ∀ i, i < n → D i = true := by
  induction n with
  | zero => intro i hi; omega
  | succ n ih =>
    intro i hi
    simp only [cntU] at h
    by_cases e : i = n
    · subst e
      cases hd : D i with
      | true => rfl
      | false => simp [hd] at h
    · exact ih (by omega) i (by omega)
theorem cntU_congr {D D' : Nat → Bool} {n : Nat} (h : ∀ j, j < n → D j = D' j) : cntU D n = cntU D' n := by
  induction n with
  | zero => rfl
  | succ n ih => simp only [cntU]; rw [ih fun j hj => h j (by omega), h n (by omega)]
theorem cntU_add {D D' : Nat → Bool} {n i : Nat} (hi : i < n) (h0 : D i = false) (h1 : D' i = true) (h : ∀ j, j ≠ i → D' j = D j) : cntU D' n + 1 = cntU D n := by
  induction n with
  | zero => omega
  | succ n ih =>
    simp only [cntU]
    by_cases e : i = n
    · subst e
      rw [cntU_congr (D := D') (D' := D) fun j hj => h j (by omega), h0, h1]; simp
    · rw [h n (fun e' => e e'.symm), ← ih (by omega)]; omega

/-- **A region that draws its order.** -/
theorem wp_drawn {X : Ctx} (hm : X.P.follows .mixedOrders = true) (hok : drawOk ops = true) (hdst : ∀ (i : Nat) (o : Oper) (d : Tmp), ops[i]? = some o → o.dst = some d → d < X.nt)
    (hrec : ∀ i, i < ops.size → Rec X.P X.may ops true i (st i) (vs i) (st (i + 1)))
    {Q : Exit → Act → World → Prop} {ρ : Nat → Option Nat} {a : Act} {w : World} {id : Nat} (h : Cfg X (st 0).1 (st 0).2.1 (st 0).2.2 ρ a w)
    (hQ : ∀ ρ a w, Cfg X (st ops.size).1 (st ops.size).2.1 (st ops.size).2.2 ρ a w → Q .normal a w) : (Code.region id ops true).wp X.P Q a w := by
  refine wp_region_any hm ?_
  -- what holds when 'listed' have been carried out
  have key : ∀ (fuel : Nat) (listed : Array Bool) (a : Act) (w : World), listed.size = ops.size →
      (∀ (i : Nat) (o : Oper), ops[i]? = some o → listed.getD i false = true → ∀ e ∈ o.after, Region.binds .any e = true → listed.getD e.on false = true) →
      cntU (fun i => listed.getD i false) ops.size ≤ fuel →
      (∃ ρ k, k ≤ ops.size ∧ Cfg X (TD ops (st 0).1 vs (fun j => listed.getD j false = true)) (st k).2.1 (st k).2.2 ρ a w ∧
        ∀ c, c < ops.size → (st (c + 1)).2 ≠ (st c).2 → (listed.getD c false = true ↔ c < k)) →
      wpAny X.P .any ops Q fuel listed a w := by
    intro fuel
    induction fuel with
    | zero =>
      intro listed a w hs hcl hcnt ⟨ρ, k, hk, hc, hch⟩
      have hall : ∀ i, i < ops.size → listed.getD i false = true := cntU_zero (Nat.le_zero.1 hcnt)
      have hready : Region.ready .any ops listed = [] := by
        rw [List.eq_nil_iff_forall_not_mem]
        intro i hi
        rw [mem_ready] at hi
        obtain ⟨h1, o, ho, _⟩ := hi
        have hlt := (Array.getElem?_eq_some_iff.1 ho).1
        have := hall i hlt
        rw [Array.getD_eq_getD_getElem?, Array.getElem?_eq_getElem (by omega)] at this h1
        simp at this h1
        rw [this] at h1; cases h1
      refine ⟨hready, hQ ρ a w ?_⟩
      have hg : (st k).2 = (st ops.size).2 := heap_same k ops.size hk (Nat.le_refl _) fun c hc hcc => ⟨fun _ => hc, fun _ => (hch c hc hcc).1 (hall c hc)⟩
      rw [regs_prefix hok hrec ops.size (Nat.le_refl _), ← hg]
      have hT : TD ops (st 0).1 vs (fun j => j < ops.size) = TD ops (st 0).1 vs (fun j => listed.getD j false = true) := by
        funext t
        exact TD_eq hok fun j o h1 _ => ⟨fun hj => hall j hj, fun _ => (Array.getElem?_eq_some_iff.1 h1).1⟩
      rw [hT]; exact hc
    | succ fuel ih =>
      intro listed a w hs hcl hcnt ⟨ρ, k, hk, hc, hch⟩
      refine ⟨fun hr => ?_, fun i hi => ?_⟩
      · -- nobody may come up: all have
        have hall : ∀ i, i < ops.size → listed.getD i false = true := by
          intro i
          induction i using Nat.strongRecOn with
          | _ i ihi =>
            intro hi
            by_cases e : listed.getD i false = true
            · exact e
            · exfalso
              have hmem : i ∈ Region.ready .any ops listed := by
                rw [mem_ready]
                refine ⟨?_, ops[i], Array.getElem?_eq_getElem hi, fun e' he' hb => ?_⟩
                · rw [Array.getD_eq_getD_getElem?, Array.getElem?_eq_getElem (by omega)] at e ⊢
                  simpa using e
                · have hlt := drawOk_lt hok i _ (Array.getElem?_eq_getElem hi) e' he' hb
                  exact ihi e'.on hlt (by omega)
              rw [hr] at hmem; cases hmem
        refine hQ ρ a w ?_
        have hg : (st k).2 = (st ops.size).2 := heap_same k ops.size hk (Nat.le_refl _) fun c hc hcc => ⟨fun _ => hc, fun _ => (hch c hc hcc).1 (hall c hc)⟩
        rw [regs_prefix hok hrec ops.size (Nat.le_refl _), ← hg]
        have hT : TD ops (st 0).1 vs (fun j => j < ops.size) = TD ops (st 0).1 vs (fun j => listed.getD j false = true) := by
          funext t
          exact TD_eq hok fun j o h1 _ => ⟨fun hj => hall j hj, fun _ => (Array.getElem?_eq_some_iff.1 h1).1⟩
        rw [hT]; exact hc
      · rw [mem_ready] at hi
        obtain ⟨hun, o, ho, hdeps⟩ := hi
        have hlt := (Array.getElem?_eq_some_iff.1 ho).1
        have hnot : ¬ listed.getD i false = true := by
          rw [Array.getD_eq_getD_getElem?, Array.getElem?_eq_getElem (by omega)] at hun ⊢
          simp at hun ⊢; exact hun
        have hpre : ∀ j, pre ops i j = true → listed.getD j false = true :=
          pre_closed (D := fun j => listed.getD j false = true) (drawOk_lt hok) hcl i o ho hdeps
        have hpost : ∀ j oj, ops[j]? = some oj → listed.getD j false = true → pre ops j i = true → False := fun j oj hoj hj hp =>
          hnot (pre_closed (D := fun j => listed.getD j false = true) (drawOk_lt hok) hcl j oj hoj (hcl j oj hoj hj) i hp)
        obtain ⟨o', b, ho', hw, hstep, hskip, hregs, hchg⟩ := hrec i hlt
        rw [ho] at ho'; cases ho'
        -- the operation looks at what it would look at in the text's order
        have hlook : ∀ t ∈ o.looksAt ops, (st i).1 t = TD ops (st 0).1 vs (fun j => listed.getD j false = true) t := by
          intro t ht
          rw [regs_prefix hok hrec i (by omega)]
          refine TD_eq hok fun j oj hoj hd => ?_
          by_cases e : i = j
          · subst e
            exact ⟨fun h => absurd h (Nat.lt_irrefl _), fun h => absurd h hnot⟩
          · have hor := (drawOk_dst hok hoj ho e hd).2 ht
            constructor
            · intro hji
              rcases hor with hp | hp
              · -- j waits for i, though it stands ahead: no edge goes that way
                exfalso
                have hlt' : ∀ m, pre ops j m = true → m < j := pre_closed (D := fun m => m < j) (drawOk_lt hok) (fun m om hom hmj e' he' hb => Nat.lt_trans (drawOk_lt hok m om hom e' he' hb) hmj) j oj hoj (drawOk_lt hok j oj hoj)
                have := hlt' i hp
                omega
              · exact hpre j hp
            · intro hj
              rcases hor with hp | hp
              · exact (hpost j oj hoj hj hp).elim
              · have hlt' : ∀ m, pre ops i m = true → m < i := pre_closed (D := fun m => m < i) (drawOk_lt hok) (fun m om hom hmj e' he' hb => Nat.lt_trans (drawOk_lt hok m om hom e' he' hb) hmj) i o ho (drawOk_lt hok i o ho)
                exact hlt' j hp
        have hwant := aWanted_sound hc (b := b) (by rw [← aWanted_congr hlook]; exact hw)
        have hdo := fun d hd => hdst i o d ho hd
        -- behind it
        have hset : ∀ j, (listed.setIfInBounds i true).getD j false = true ↔ (listed.getD j false = true ∨ j = i) := fun j => by
          by_cases e : j = i
          · subst e
            simp [Array.getD_eq_getD_getElem?, hs, hlt]
          · rw [getD_set_ne false (Ne.symm e)]
            exact ⟨.inl, fun h => h.resolve_right e⟩
        have hTset : TD ops (st 0).1 vs (fun j => (listed.setIfInBounds i true).getD j false = true) = upd (TD ops (st 0).1 vs (fun j => listed.getD j false = true)) o.dst (vs i) := by
          rw [← TD_add hok ho hnot]
          congr 1
          funext j
          exact propext (hset j)
        have hcl' : ∀ (j : Nat) (oj : Oper), ops[j]? = some oj → (listed.setIfInBounds i true).getD j false = true → ∀ e ∈ oj.after, Region.binds .any e = true → (listed.setIfInBounds i true).getD e.on false = true := by
          intro j oj hoj hj e he hb
          refine getD_set_true ?_
          rcases (hset j).1 hj with h' | h'
          · exact hcl j oj hoj h' e he hb
          · subst h'; rw [ho] at hoj; cases hoj; exact hdeps e he hb
        have hcnt' : cntU (fun j => (listed.setIfInBounds i true).getD j false) ops.size ≤ fuel := by
          have := cntU_add (D := fun j => listed.getD j false) (D' := fun j => (listed.setIfInBounds i true).getD j false) hlt (by simpa using hnot) ((hset i).2 (.inr rfl)) (fun j hj => getD_set_ne false (Ne.symm hj))
          omega
        -- it does what it does in the text's order
        have done : ∀ cv w' ρ' k', k' ≤ ops.size → Cfg X (upd (TD ops (st 0).1 vs (fun j => listed.getD j false = true)) o.dst (vs i)) (st k').2.1 (st k').2.2 ρ' (a.put o.dst cv) w' →
            (∀ c, c < ops.size → (st (c + 1)).2 ≠ (st c).2 → ((listed.setIfInBounds i true).getD c false = true ↔ c < k')) → wpAny X.P .any ops Q fuel (listed.setIfInBounds i true) (a.put o.dst cv) w' :=
          fun cv w' ρ' k' hk' hc' hch' => ih _ _ _ (by simpa using hs) hcl' hcnt' ⟨ρ', k', hk', by rw [hTset]; exact hc', hch'⟩
        have still : (st (i + 1)).2 = (st i).2 → ∀ c, c < ops.size → (st (c + 1)).2 ≠ (st c).2 → ((listed.setIfInBounds i true).getD c false = true ↔ c < k) := fun he c hc1 hc2 => by
          rw [hset c]
          refine ⟨fun h => ?_, fun h => .inl ((hch c hc1 hc2).2 h)⟩
          rcases h with h | h
          · exact (hch c hc1 hc2).1 h
          · subst h; exact absurd he hc2
        unfold wpOp
        simp only [ho, hwant]
        cases b with
        | false =>
          simp only [Bool.false_eq_true, if_false]
          obtain ⟨hv, hsame⟩ := hskip rfl
          have hc' := hc.skip (dst := o.dst) hdo
          rw [← hv] at hc' ⊢
          exact done _ _ _ k hk hc' (still hsame)
        | true =>
          simp only [if_true]
          refine .inl ?_
          have hs1 := (hstep rfl).congr hlook
          by_cases hp : pureOp o.op = true
          · -- it asks the heap nothing
            have hs2 : Step X.P X.may o (TD ops (st 0).1 vs (fun j => listed.getD j false = true)) (st k).2.1 (st k).2.2 (vs i) (st k).2.1 (st k).2.2 ∧ (st (i + 1)).2 = (st i).2 := by
              rcases hs1 with ⟨ε, h1, h2, h3, h4, h5⟩ | ⟨f, args, t, h1, _⟩
              · obtain ⟨rfl, h6⟩ := aOp_pure hp h2
                exact ⟨.inl ⟨.none, h1, h6 _ _, fun _ h => h.elim, rfl, rfl⟩, Prod.ext h4 h5⟩
              · rw [aCall_not_pure h1] at hp; cases hp
            exact hs2.1.wp hc hdo fun cv w' ρ' hc' => done cv w' ρ' k hk hc' (still hs2.2)
          · -- all that turn the heap and stand ahead of it have been, and no others
            have hchg' : ∀ c, c < ops.size → (st (c + 1)).2 ≠ (st c).2 → c ≠ i → (listed.getD c false = true ↔ c < i) := fun c hc1 hc2 hne => by
              obtain ⟨oc, bc, hoc, _, _, _, _, hord⟩ := hrec c hc1
              have hord := (hord.resolve_right hc2).resolve_left (by simp)
              simp only [ordB, List.all_eq_true, List.mem_range] at hord
              have hi' := hord i hlt
              simp only [ho, Bool.or_eq_true, beq_iff_eq, show ¬ i = c from fun e => hne e.symm, false_or, hp, Bool.false_eq_true] at hi'
              by_cases hic : i < c
              · rw [if_pos hic] at hi'
                exact ⟨fun h => (hpost c oc hoc h hi').elim, fun h => by omega⟩
              · rw [if_neg hic] at hi'
                exact ⟨fun _ => by omega, fun _ => hpre c hi'⟩
            have hg : (st k).2 = (st i).2 := heap_same k i hk (by omega) fun c hc1 hc2 => by
              rw [← hch c hc1 hc2]
              by_cases e : c = i
              · subst e; exact ⟨fun h => absurd h hnot, fun h => absurd h (Nat.lt_irrefl _)⟩
              · exact hchg' c hc1 hc2 e
            rw [hg] at hc
            refine hs1.wp hc hdo fun cv w' ρ' hc' => done cv w' ρ' (i + 1) (by omega) hc' fun c hc1 hc2 => ?_
            rw [hset c]
            by_cases e : c = i
            · subst e; exact ⟨fun _ => by omega, fun _ => .inr rfl⟩
            · rw [hchg' c hc1 hc2 e]
              exact ⟨fun h => by rcases h with h | h <;> omega, fun h => .inl (by omega)⟩
  refine key ops.size _ _ _ (by simp) (fun i o _ h => ?_) ?_ ⟨ρ, 0, Nat.zero_le _, ?_, fun c hc _ => ⟨fun h => ?_, fun h => by omega⟩⟩
  · exfalso
    rw [Array.getD_eq_getD_getElem?, Array.getElem?_replicate] at h
    split at h <;> simp at h
  · have : ∀ n, cntU (fun i => (Array.replicate ops.size false).getD i false) n ≤ n := by
      intro n
      induction n with
      | zero => exact Nat.le_refl _
      | succ n ih => simp only [cntU]; split <;> omega
    exact this _
  · have hT : TD ops (st 0).1 vs (fun j => (Array.replicate ops.size false).getD j false = true) = (st 0).1 := by
      funext t
      refine TD_not fun j o _ h => ?_
      exfalso
      rw [Array.getD_eq_getD_getElem?, Array.getElem?_replicate] at h
      split at h <;> simp at h
    rw [hT]
    exact h.drew
  · exfalso
    rw [Array.getD_eq_getD_getElem?, Array.getElem?_replicate] at h
    split at h <;> simp at h
end
end Go.Proofs.YtkcahnefekkfaaaAbs
