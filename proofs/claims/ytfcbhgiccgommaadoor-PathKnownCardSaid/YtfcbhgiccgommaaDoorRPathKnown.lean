/- PathKnown returns true: the chapter's examples answer as told. It asks for nothing: the function has no argument. -/
import Derived.Test.YtfcbhgiccgommaaDoorRows
import Derived.Test.YtfcbhgiccgommaaDoorTie
import Derived.Test.YtfcbhgiccgommaaDoorCards
import Derived.LaidMore
import Derived.OpenShut
import Derived.Stop.Joined
import Derived.SevenTiedAt
import Derived.Lay
import Derived.Test.YtfcbhgiccgommaaDoorP9Ka
namespace Go.Proofs.YtfcbhgiccgommaaDoor.pathKnownLaw
open Go Go.Proofs Go.Proofs.YtfcbhgiccgommaaDoorAbs Go.Proofs.YtfcbhgiccgommaaDoor.F9K Go.RowKit Go.ChangeShapes Go.WideShapes Go.ChangeAt
set_option linter.unusedVariables false
set_option maxRecDepth 100000
theorem own : ownKnob Tryd.prog.godebug = none := by kernel_rfl
/-- The door's own heap meets the condition. -/
theorem door_met (os : Os) (args : Array Value) : laidMetH Tryd.prog Rows.pathKnownRow.laid ((World.laidAll Tryd.prog os Rows.pathKnownRow.laid).forCall (fun _ _ => 0) ⟨#[], args, []⟩).memory := by
  rw [MakeChecks.laidMetH_plain _ _ _ (by kernel_rfl)]; exact laidMet_laidAll _ (by kernel_rfl) (by kernel_rfl)
set_option maxRecDepth 100000 in
theorem lifted (os : Os) (started : os.Started) (H : Type) (enc : TypeId × Value → H) :
    ReturnsInHanded {} Tryd.checked os 10 .any (fun w args => (Rows.pathKnownSpec.pre enc Tryd.prog Tryd.f10 [] false w args ∧ laidMetH Tryd.prog Rows.pathKnownRow.laid w) ∧ sizedMet enc Tryd.prog Tryd.f10 (OpenSpec.ofChange Rows.pathKnownSpec) false w args) (Rows.pathKnownSpec.post enc Tryd.prog Tryd.f10 false true false false) := by
  refine returnsInHanded_of_change_and (C := Tryd.checked) (X := fun w _ => laidMetH Tryd.prog Rows.pathKnownRow.laid w) (fun _ _ _ hh h => h.of_heap hh) own started (by kernel_rfl) Tryd.func10
    (ChangeSpec.witness_shaped (enc := enc) (C := Tryd.checked) (os := os) (X := fun w _ => laidMetH Tryd.prog Rows.pathKnownRow.laid w) false (World.laidAll Tryd.prog os Rows.pathKnownRow.laid) #[] 8 (World.laidAll_os _ _ _) (World.shaped_of_ZipB (by kernel_rfl) (by kernel_rfl)) (by kernel_rfl) (by kernel_rfl) (by kernel_rfl) (door_met os _)) ?_
  intro W base args ds gs before hval hW hcnd hsz hL _
  obtain ⟨hk, hev⟩ := haveI : Base := ⟨0, W⟩; base_err (P := Tryd.prog) hL (MakeChecks.laidMetH_plain _ _ _ (by kernel_rfl)) (x := ("strconv.ErrSyntax", Rows.laid_strconv_ErrSyntax)) (by unfold Rows.pathKnownRow; simp) (k := 0) (by kernel_rfl) (by kernel_rfl) Tryd.underlying88
  letI : Base := ⟨0 + 1, W⟩
  have hB : BaseW W := ⟨fun b _ => rfl, hk⟩
  have hE : BaseErr := ⟨by show (_ : Nat) < 0 + 1; decide, hev⟩
  have hW' := hW
  obtain ⟨p, q, hA0, hV, rfl, hfz, hnd⟩ := hW
  have hA : DataW.TrodAll enc Tryd.prog W 0 (fun _ => true) true Tryd.f10.params.toList args.toList ds p := hA0
  rw [Tryd.params10] at hA
  obtain ⟨rfl, rfl, rfl⟩ := trodAll_none hA
  obtain ⟨rfl, rfl⟩ := trodVars_none hV
  refine (law_calls hB (known9 hE _ _) (VRs.nil _ _)).mono fun e W' ⟨he, bel⟩ => ?_
  subst he
  exact ⟨_, rfl, _, _, _, [], _, [], hW', trodAll_mk1 (shut_bool Tryd.underlying4 _), trodAll_mk0, rfl, bel.frame _, fun h => by cases h⟩
theorem over : Rows.pathKnownRow.holds Tryd.pinned (OpenSpec.ofChange Rows.pathKnownSpec) :=
  OpenClaim.holds_of_wide 10 Tryd.f10 rfl rfl rfl rfl rfl rfl rfl ⟨rfl, rfl, rfl, rfl, rfl⟩ rfl rfl rfl rfl rfl (by kernel_rfl) Tryd.func10 (by kernel_rfl)
    (of_decide_eq_true (by kernel_rfl)) (by unfold Func.isWrapper; first | (rw [if_pos (by decide +kernel)]; kernel_rfl) | (rw [if_neg (by decide +kernel)]; exact ⟨rfl, rfl⟩))
    (fun os started H enc _ => lifted os started H enc)
end Go.Proofs.YtfcbhgiccgommaaDoor.pathKnownLaw
namespace Go.Proofs.YtfcbhgiccgommaaDoor
theorem pathKnown_holds : Rows.PathKnownCardSaid :=
  Claim7.holds_tied_plain_at .later [] [.data, .data, .data, .data, .sentinel, .sentinel, .pinned] true (true, "44557f85c06bc9e3bfa10e696a41113eff375a1ba67f2f63b92ffde260df14cd") true
    pathKnownLaw.over (fun _ h => by cases h) (by kernel_rfl) (fun _ h => by cases h) pathKnown_row_tie rfl ⟨rfl, rfl⟩ (by kernel_rfl) rfl
    (fun f fn hf hfn => by
      obtain rfl : f = 10 := Option.some.inj ((show Tryd.prog.funcNamed "reeve/reevelaw9.PathKnown" = some 10 by kernel_rfl).symm.trans hf) |>.symm
      obtain rfl : fn = Tryd.f10 := (Option.some.inj (Tryd.func10.symm.trans hfn)).symm
      exact ⟨by kernel_rfl, fun j t ht => by
        rw [Tryd.params10] at ht
        simp at ht⟩)
    (by kernel_rfl)
#print axioms pathKnown_holds
end Go.Proofs.YtfcbhgiccgommaaDoor
