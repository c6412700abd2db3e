/- ForestKnown returns true: the chapter's examples answer as told. It asks for nothing: the function has no argument. -/
import Derived.Test.YtfcbhgiccgommaaRows
import Derived.Test.YtfcbhgiccgommaaFK
namespace Go.Proofs.Ytfcbhgiccgommaa.forestKnownLaw
open Go Go.Proofs Go.Proofs.YtfcbhgiccgommaaAbs Go.Proofs.Ytfcbhgiccgommaa.FK Go.RowKit Go.ChangeShapes Go.WideShapes Go.ChangeAt
set_option linter.unusedVariables false
set_option maxRecDepth 100000
theorem run : xfn Try.prog tab 1000 60 6 [] (fun _ => none) 0 = some ⟨.bool true, fun _ => none, 0, 0, true⟩ := by kernel_rfl
theorem con (g : AMem) (n : Nat) : FnC Try.prog 6 [] g n (fun _ => False) (.bool true) g n :=
  FnC.closed (xfn_ok hm tabOk 1000 60 _ _ _ _ _ (fun _ h => absurd rfl h) run).2.1 rfl rfl g n
theorem own : ownKnob Try.prog.godebug = none := by kernel_rfl
set_option maxRecDepth 100000 in
theorem lifted (os : Os) (started : os.Started) (H : Type) (enc : TypeId × Value → H) :
    ReturnsInHanded {} Try.checked os 6 .any (Rows.forestKnownSpec.pre6 enc Try.prog Try.f6 Rows.forestKnownRow.domain false) (Rows.forestKnownSpec.post enc Try.prog Try.f6 false true false false) := by
  refine returnsInHanded_of_change_sized (C := Try.checked) own started (by kernel_rfl) Try.func6
    (ChangeSpec.witness6 (enc := enc) (C := Try.checked) false ⟨#[], #[], []⟩ 8 (by kernel_rfl) (by kernel_rfl) (by kernel_rfl) (by kernel_rfl)) ?_
  intro W base args ds gs before hval hW hcnd hsz _
  have hW' := hW
  obtain ⟨p, q, hA0, hV, rfl, hfz, hnd⟩ := hW
  have hA : DataW.TrodAll enc Try.prog W 0 (fun _ => true) true Try.f6.params.toList args.toList ds p := hA0
  rw [Try.params6] at hA
  obtain ⟨rfl, rfl, rfl⟩ := trodAll_none hA
  obtain ⟨rfl, rfl⟩ := trodVars_none hV
  refine (law_calls (con _ _) (VRs.nil _ _)).mono fun e W' ⟨he, bel⟩ => ?_
  subst he
  exact ⟨_, rfl, _, _, _, [], _, [], hW', trodAll_mk1 (shut_bool Try.underlying4 _), trodAll_mk0, rfl, bel.frame _, fun h => by cases h⟩
theorem over : Rows.forestKnownRow.holds Try.pinned (OpenSpec.ofChange Rows.forestKnownSpec) :=
  OpenClaim.holds_of_wide 6 Try.f6 rfl rfl rfl rfl rfl rfl rfl ⟨rfl, rfl, rfl, rfl, rfl⟩ rfl rfl rfl rfl rfl (by kernel_rfl) Try.func6 (by kernel_rfl)
    (of_decide_eq_true (by kernel_rfl)) (by unfold Func.isWrapper; first | (rw [if_pos (by decide +kernel)]; kernel_rfl) | (rw [if_neg (by decide +kernel)]; exact ⟨rfl, rfl⟩))
    (fun os started H enc _ => lifted os started H enc)
end Go.Proofs.Ytfcbhgiccgommaa.forestKnownLaw
namespace Go.Proofs.Ytfcbhgiccgommaa
theorem forestKnown_holds : Rows.ForestKnownSaid := forestKnownLaw.over
#print axioms forestKnown_holds
end Go.Proofs.Ytfcbhgiccgommaa
