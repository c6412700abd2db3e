/- StateKnown returns true: the chapter's examples answer as told. It asks for nothing: the function has no argument. -/
import Derived.Test.YtkcahnefekkfaaaRows
import Derived.Test.YtkcahnefekkfaaaP12Ka
namespace Go.Proofs.Ytkcahnefekkfaaa.stateKnownLaw
open Go Go.Proofs Go.Proofs.YtkcahnefekkfaaaAbs Go.Proofs.Ytkcahnefekkfaaa.F12K Go.RowKit Go.ChangeShapes Go.WideShapes Go.ChangeAt
set_option linter.unusedVariables false
set_option maxRecDepth 100000
theorem own : ownKnob Try.prog.godebug = none := by kernel_rfl
set_option maxRecDepth 100000 in
theorem lifted (os : Os) (started : os.Started) (H : Type) (enc : TypeId × Value → H) :
    ReturnsInHanded {} Try.checked os 8 .any (Rows.stateKnownSpec.pre6 enc Try.prog Try.f8 Rows.stateKnownRow.domain false) (Rows.stateKnownSpec.post enc Try.prog Try.f8 false true false false) := by
  refine returnsInHanded_of_change_sized (C := Try.checked) own started (by kernel_rfl) Try.func8
    (ChangeSpec.witness6 (enc := enc) (C := Try.checked) false ⟨#[], #[], []⟩ 8 (by kernel_rfl) (by kernel_rfl) (by kernel_rfl) (by kernel_rfl)) ?_
  intro W base args ds gs before hval hW hcnd hsz _
  letI : Base := ⟨0, W⟩
  have hB : BaseW W := ⟨fun b hb => absurd hb (Nat.not_lt_zero _), Nat.zero_le _⟩
  have hW' := hW
  obtain ⟨p, q, hA0, hV, rfl, hfz, hnd⟩ := hW
  have hA : DataW.TrodAll enc Try.prog W 0 (fun _ => true) true Try.f8.params.toList args.toList ds p := hA0
  rw [Try.params8] at hA
  obtain ⟨rfl, rfl, rfl⟩ := trodAll_none hA
  obtain ⟨rfl, rfl⟩ := trodVars_none hV
  refine (law_calls hB (known12 _ _) (VRs.nil _ _)).mono fun e W' ⟨he, bel⟩ => ?_
  subst he
  exact ⟨_, rfl, _, _, _, [], _, [], hW', trodAll_mk1 (shut_bool Try.underlying4 _), trodAll_mk0, rfl, bel.frame _, fun h => by cases h⟩
theorem over : Rows.stateKnownRow.holds Try.pinned (OpenSpec.ofChange Rows.stateKnownSpec) :=
  OpenClaim.holds_of_wide 8 Try.f8 rfl rfl rfl rfl rfl rfl rfl ⟨rfl, rfl, rfl, rfl, rfl⟩ rfl rfl rfl rfl rfl (by kernel_rfl) Try.func8 (by kernel_rfl)
    (of_decide_eq_true (by kernel_rfl)) (by unfold Func.isWrapper; first | (rw [if_pos (by decide +kernel)]; kernel_rfl) | (rw [if_neg (by decide +kernel)]; exact ⟨rfl, rfl⟩))
    (fun os started H enc _ => lifted os started H enc)
end Go.Proofs.Ytkcahnefekkfaaa.stateKnownLaw
namespace Go.Proofs.Ytkcahnefekkfaaa
theorem stateKnown_holds : Rows.StateKnownSaid := stateKnownLaw.over
#print axioms stateKnown_holds
end Go.Proofs.Ytkcahnefekkfaaa
