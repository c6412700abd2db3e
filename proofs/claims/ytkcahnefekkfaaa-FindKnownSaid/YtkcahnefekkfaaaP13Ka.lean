/- Contracts of functions: what each one returns, and what it leaves. No statement is proved here. -/
import Derived.Test.YtkcahnefekkfaaaF13K
set_option linter.unusedVariables false
set_option linter.unusedSimpArgs false
set_option linter.unusedSectionVars false
namespace Go.Proofs.Ytkcahnefekkfaaa.F13K
open Go Go.Proofs Go.Proofs.YtkcahnefekkfaaaAbs
variable [Base]
set_option maxRecDepth 100000
abbrev rdW (g : AMem) (v : Value) (ws : List (BitVec 64)) : Prop := Rd g 1 (fun w => [U w]) v ws
abbrev rdI (g : AMem) (v : Value) (xs : List Int) : Prop := Rd g 1 (fun x => [.int .i64 x]) v xs
end Go.Proofs.Ytkcahnefekkfaaa.F13K

namespace Go.Proofs.Ytkcahnefekkfaaa.F13K
open Go Go.Proofs Go.Proofs.YtkcahnefekkfaaaAbs
variable [Base]
set_option maxRecDepth 100000
/-! ### state.Good of given states: each by a run of its own -/
abbrev I (n : Nat) : Value := .int .i64 (.ofNat n)
abbrev M (n : Nat) : Value := .int .i64 (.negSucc n)
abbrev B (b : Bool) : Value := .bool b
abbrev U8 (n : Nat) : Value := .int .u64 (.ofNat n)
noncomputable def g_nested : Memo := ⟨[I 2, I 32, I 16], 32, 5, 16, 13,
  [I 1, I 0, I 7, I 0, M 0,
   I 3, I 1, I 7, I 0, M 0,
   I 2, I 7, I 1, I 0, I 0,
   I 2, I 7, I 0, I 0, I 2,
   I 0, I 0, I 0, I 0, M 0,
   I 0, I 0, I 0, I 0, M 0,
   I 0, I 0, I 0, I 0, M 0,
   I 0, I 0, I 0, I 0, M 0,
   I 0, I 0, I 0, I 0, M 0,
   I 3, I 1, I 7, I 0, I 1,
   I 0, I 0, I 0, I 0, M 0,
   I 0, I 0, I 0, I 0, M 0,
   I 0, I 0, I 0, I 0, M 0,
   I 0, I 0, I 0, I 0, M 0,
   I 0, I 0, I 0, I 0, M 0,
   I 0, I 0, I 0, I 0, M 0,
   I 0, I 0, I 0, I 0, M 0,
   I 2, I 8, I 3, I 0, I 0,
   I 0, I 0, I 0, I 0, M 0,
   I 0, I 0, I 0, I 0, M 0,
   I 0, I 0, I 0, I 0, M 0,
   I 0, I 0, I 0, I 0, M 0,
   I 0, I 0, I 0, I 0, M 0,
   I 0, I 0, I 0, I 0, M 0,
   I 0, I 0, I 0, I 0, M 0,
   I 0, I 0, I 0, I 0, M 0,
   I 0, I 0, I 0, I 0, M 0,
   I 0, I 0, I 0, I 0, M 0,
   I 0, I 0, I 0, I 0, M 0,
   I 0, I 0, I 0, I 0, M 0,
   I 0, I 0, I 0, I 0, M 0,
   I 0, I 0, I 0, I 0, M 0],
  [I 1, I 0, I 0, I 64, I 0, I 0, I 0, B false, U8 0, U8 0, U8 0, U8 0, U8 0,
   I 3, I 0, I 0, I 0, I 0, I 0, I 0, B false, U8 0, U8 0, U8 0, U8 0, U8 0,
   I 2, I 3, I 0, I 0, I 0, I 0, I 0, B false, U8 0, U8 0, U8 0, U8 0, U8 0,
   I 2, I 3, I 8, I 0, I 0, I 0, I 0, B false, U8 0, U8 0, U8 0, U8 0, U8 0,
   I 0, I 0, I 0, I 0, I 0, I 0, I 0, B false, U8 0, U8 0, U8 0, U8 0, U8 0,
   I 0, I 0, I 0, I 0, I 0, I 0, I 0, B false, U8 0, U8 0, U8 0, U8 0, U8 0,
   I 0, I 0, I 0, I 0, I 0, I 0, I 0, B false, U8 0, U8 0, U8 0, U8 0, U8 0,
   I 2, I 1, I 16, I 0, I 0, I 0, I 0, B false, U8 0, U8 0, U8 0, U8 0, U8 0,
   I 2, I 1, I 18, I 0, I 0, I 0, I 0, B false, U8 0, U8 0, U8 0, U8 0, U8 0,
   I 0, I 0, I 0, I 0, I 0, I 0, I 0, B false, U8 0, U8 0, U8 0, U8 0, U8 0,
   I 0, I 0, I 0, I 0, I 0, I 0, I 0, B false, U8 0, U8 0, U8 0, U8 0, U8 0,
   I 0, I 0, I 0, I 0, I 0, I 0, I 0, B false, U8 0, U8 0, U8 0, U8 0, U8 0,
   I 0, I 0, I 0, I 0, I 0, I 0, I 0, B false, U8 0, U8 0, U8 0, U8 0, U8 0,
   I 0, I 0, I 0, I 0, I 0, I 0, I 0, B false, U8 0, U8 0, U8 0, U8 0, U8 0,
   I 0, I 0, I 0, I 0, I 0, I 0, I 0, B false, U8 0, U8 0, U8 0, U8 0, U8 0,
   I 0, I 0, I 0, I 0, I 0, I 0, I 0, B false, U8 0, U8 0, U8 0, U8 0, U8 0], true⟩
theorem g_nested_ok : MemoOk Try.prog f_state_Good g_nested := memo_run hm tabOk ExtOk.nil (k := 4000) (d := 60) (by kernel_rfl)
noncomputable def g_first : Memo := ⟨[I 2, I 32, I 16], 32, 5, 16, 13,
  [I 1, I 0, I 7, I 0, M 0,
   I 3, I 1, I 7, I 0, M 0,
   I 0, I 0, I 0, I 0, M 0,
   I 0, I 0, I 0, I 0, M 0,
   I 0, I 0, I 0, I 0, M 0,
   I 0, I 0, I 0, I 0, M 0,
   I 0, I 0, I 0, I 0, M 0,
   I 0, I 0, I 0, I 0, M 0,
   I 0, I 0, I 0, I 0, M 0,
   I 3, I 1, I 7, I 0, I 1,
   I 0, I 0, I 0, I 0, M 0,
   I 0, I 0, I 0, I 0, M 0,
   I 0, I 0, I 0, I 0, M 0,
   I 0, I 0, I 0, I 0, M 0,
   I 0, I 0, I 0, I 0, M 0,
   I 0, I 0, I 0, I 0, M 0,
   I 0, I 0, I 0, I 0, M 0,
   I 0, I 0, I 0, I 0, M 0,
   I 0, I 0, I 0, I 0, M 0,
   I 0, I 0, I 0, I 0, M 0,
   I 0, I 0, I 0, I 0, M 0,
   I 0, I 0, I 0, I 0, M 0,
   I 0, I 0, I 0, I 0, M 0,
   I 0, I 0, I 0, I 0, M 0,
   I 0, I 0, I 0, I 0, M 0,
   I 0, I 0, I 0, I 0, M 0,
   I 0, I 0, I 0, I 0, M 0,
   I 0, I 0, I 0, I 0, M 0,
   I 0, I 0, I 0, I 0, M 0,
   I 0, I 0, I 0, I 0, M 0,
   I 0, I 0, I 0, I 0, M 0,
   I 0, I 0, I 0, I 0, M 0],
  [I 1, I 0, I 0, I 64, I 0, I 0, I 0, B false, U8 0, U8 0, U8 0, U8 0, U8 0,
   I 3, I 0, I 0, I 0, I 0, I 0, I 0, B false, U8 0, U8 0, U8 0, U8 0, U8 0,
   I 2, I 3, I 0, I 0, I 0, I 0, I 0, B false, U8 0, U8 0, U8 0, U8 0, U8 0,
   I 2, I 3, I 8, I 0, I 0, I 0, I 0, B false, U8 0, U8 0, U8 0, U8 0, U8 0,
   I 0, I 0, I 0, I 0, I 0, I 0, I 0, B false, U8 0, U8 0, U8 0, U8 0, U8 0,
   I 0, I 0, I 0, I 0, I 0, I 0, I 0, B false, U8 0, U8 0, U8 0, U8 0, U8 0,
   I 0, I 0, I 0, I 0, I 0, I 0, I 0, B false, U8 0, U8 0, U8 0, U8 0, U8 0,
   I 0, I 0, I 0, I 0, I 0, I 0, I 0, B false, U8 0, U8 0, U8 0, U8 0, U8 0,
   I 0, I 0, I 0, I 0, I 0, I 0, I 0, B false, U8 0, U8 0, U8 0, U8 0, U8 0,
   I 0, I 0, I 0, I 0, I 0, I 0, I 0, B false, U8 0, U8 0, U8 0, U8 0, U8 0,
   I 0, I 0, I 0, I 0, I 0, I 0, I 0, B false, U8 0, U8 0, U8 0, U8 0, U8 0,
   I 0, I 0, I 0, I 0, I 0, I 0, I 0, B false, U8 0, U8 0, U8 0, U8 0, U8 0,
   I 0, I 0, I 0, I 0, I 0, I 0, I 0, B false, U8 0, U8 0, U8 0, U8 0, U8 0,
   I 0, I 0, I 0, I 0, I 0, I 0, I 0, B false, U8 0, U8 0, U8 0, U8 0, U8 0,
   I 0, I 0, I 0, I 0, I 0, I 0, I 0, B false, U8 0, U8 0, U8 0, U8 0, U8 0,
   I 0, I 0, I 0, I 0, I 0, I 0, I 0, B false, U8 0, U8 0, U8 0, U8 0, U8 0], true⟩
theorem g_first_ok : MemoOk Try.prog f_state_Good g_first := memo_run hm tabOk ExtOk.nil (k := 4000) (d := 60) (by kernel_rfl)
noncomputable def goods : List Memo := [g_nested, g_first]
theorem goods_ok : ∀ m, m ∈ goods → MemoOk Try.prog f_state_Good m := fun m hm => by
  simp only [goods, List.mem_cons, List.not_mem_nil, or_false] at hm
  rcases hm with rfl | rfl
  · exact g_nested_ok
  · exact g_first_ok
noncomputable def ext : XExt := [(f_state_Good, memoF goods)]
theorem extOk : ExtOk Try.prog ext := ExtOk.cons (memo_ok t_state_Good.go goods_ok) ExtOk.nil
end Go.Proofs.Ytkcahnefekkfaaa.F13K

namespace Go.Proofs.Ytkcahnefekkfaaa.F13K
open Go Go.Proofs Go.Proofs.YtkcahnefekkfaaaAbs
variable [Base]
set_option maxRecDepth 100000
theorem known13_run : yesT (cfn Try.prog tab ext 4000 60 f_reevelaw13_FindKnown [] TM.none 0) = true := by kernel_rfl
theorem known13 (g : AMem) (n : Nat) : FnC Try.prog f_reevelaw13_FindKnown [] g n (fun _ => False) (.bool true) g n :=
  let ⟨_, h⟩ := quick_fnC hm tabOk extOk known13_run
  FnC.closed h rfl rfl g n
end Go.Proofs.Ytkcahnefekkfaaa.F13K
