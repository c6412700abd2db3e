/- SuperKnown returns true: the examples answer as told. It asks for nothing: the function has no argument. -/
import Derived.Test.YtcndbfekcmalmaaRows
import Derived.Test.YtcndbfekcmalmaaF6K
namespace Go.Proofs.Ytcndbfekcmalmaa.superKnownLaw
open Go Go.Proofs Go.Proofs.YtcndbfekcmalmaaAbs Go.Proofs.Ytcndbfekcmalmaa.F6K Go.RowKit Go.ChangeShapes Go.WideShapes Go.ChangeAt
set_option linter.unusedVariables false
set_option maxRecDepth 100000
/-! Functions of package math that the model knows. -/
theorem x_archTrunc : extFn Try.prog f_math_archTrunc = some (Extern.MathFloor.toIntegral "math.archTrunc" .zero) := by kernel_rfl
theorem x_Float64bits : extFn Try.prog f_math_Float64bits = some Extern.MathFloatBits.float64bits := by kernel_rfl
noncomputable def ext : XExt := [(f_math_archTrunc, xext Try.prog (Extern.MathFloor.toIntegral "math.archTrunc" .zero)), (f_math_Float64bits, xext Try.prog Extern.MathFloatBits.float64bits)]
theorem extOk : ExtOk Try.prog ext := .cons (xext_ok x_archTrunc) (.cons (xext_ok x_Float64bits) .nil)
theorem run : xfnE Try.prog tab ext 3000 20 11 [] (fun _ => none) 0 = some ⟨.bool true, fun _ => none, 0, 0, true⟩ := by kernel_rfl
theorem con (g : AMem) (n : Nat) : FnC Try.prog 11 [] g n (fun _ => False) (.bool true) g n :=
  FnC.closed (xfnE_ok hm tabOk extOk 3000 20 _ _ _ _ _ (fun _ h => absurd rfl h) run).2.1 rfl rfl g n
theorem own : ownKnob Try.prog.godebug = none := by kernel_rfl
set_option maxRecDepth 100000 in
theorem lifted (os : Os) (started : os.Started) (H : Type) (enc : TypeId × Value → H) :
    ReturnsInHanded {} Try.checked os 11 .any (Rows.superKnownSpec.pre6 enc Try.prog Try.f11 Rows.superKnownRow.domain false) (Rows.superKnownSpec.post enc Try.prog Try.f11 false true false false) := by
  refine returnsInHanded_of_change_sized (C := Try.checked) own started (by kernel_rfl) Try.func11
    (ChangeSpec.witness6 (enc := enc) (C := Try.checked) false ⟨#[], #[], []⟩ 8 (by kernel_rfl) (by kernel_rfl) (by kernel_rfl) (by kernel_rfl)) ?_
  intro W base args ds gs before hval hW hcnd hsz _
  have hW' := hW
  obtain ⟨p, q, hA0, hV, rfl, hfz, hnd⟩ := hW
  have hA : DataW.TrodAll enc Try.prog W 0 (fun _ => true) true Try.f11.params.toList args.toList ds p := hA0
  rw [Try.params11] at hA
  obtain ⟨rfl, rfl, rfl⟩ := trodAll_none hA
  obtain ⟨rfl, rfl⟩ := trodVars_none hV
  refine (law_calls (con _ _) (VRs.nil _ _)).mono fun e W' ⟨he, bel⟩ => ?_
  subst he
  exact ⟨_, rfl, _, _, _, [], _, [], hW', trodAll_mk1 (shut_bool Try.underlying4 _), trodAll_mk0, rfl, bel.frame _, fun h => by cases h⟩
theorem over : Rows.superKnownRow.holds Try.pinned (OpenSpec.ofChange Rows.superKnownSpec) :=
  OpenClaim.holds_of_wide 11 Try.f11 rfl rfl rfl rfl rfl rfl rfl ⟨rfl, rfl, rfl, rfl, rfl⟩ rfl rfl rfl rfl rfl (by kernel_rfl) Try.func11 (by kernel_rfl)
    (of_decide_eq_true (by kernel_rfl)) (by unfold Func.isWrapper; first | (rw [if_pos (by decide +kernel)]; kernel_rfl) | (rw [if_neg (by decide +kernel)]; exact ⟨rfl, rfl⟩))
    (fun os started H enc _ => lifted os started H enc)
end Go.Proofs.Ytcndbfekcmalmaa.superKnownLaw
namespace Go.Proofs.Ytcndbfekcmalmaa
theorem superKnown_holds : Rows.SuperKnownSaid := superKnownLaw.over
#print axioms superKnown_holds
end Go.Proofs.Ytcndbfekcmalmaa
