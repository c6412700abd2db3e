/- ForestDepths returns true: who came of something is one deeper than that; kids are the least deep below. The input is as it was. It holds for all arguments. -/
import Derived.Test.YtfcbhgiccgommaaRows
import Derived.Test.YtfcbhgiccgommaaP10a
namespace Go.Proofs.Ytfcbhgiccgommaa.forestDepthsLaw
open Go Go.Proofs Go.Proofs.YtfcbhgiccgommaaAbs Go.Proofs.Ytfcbhgiccgommaa.F10 Go.RowKit Go.ChangeShapes Go.WideShapes Go.ChangeAt
set_option linter.unusedVariables false
set_option linter.unusedSimpArgs false
theorem own : ownKnob Try.prog.godebug = none := by kernel_rfl
theorem laid : laidOutB Try.prog = true := by kernel_rfl
theorem reads : ∀ t ∈ Try.f3.params.toList, Try.prog.readableRec t = true ∧ t < Try.prog.types.size := by
  rw [Try.params3]; decide +kernel
theorem kind1 : ckinds Try.prog 9 22 = some [.slice 3] := by kernel_rfl
theorem kind1e : ckinds Try.prog 9 3 = some [.flat (.int .i64)] := by kernel_rfl
theorem cells1 : Try.prog.cellsOf 3 = 1 := by kernel_rfl
set_option maxRecDepth 100000 in
theorem lifted (os : Os) (started : os.Started) (H : Type) (enc : TypeId × Value → H) :
    ReturnsInHanded {} Try.checked os 3 .any (Rows.forestDepthsSpec.pre6 enc Try.prog Try.f3 Rows.forestDepthsRow.domain false) (Rows.forestDepthsSpec.post enc Try.prog Try.f3 false true false false) := by
  refine returnsInHanded_of_change_sized (C := Try.checked) own started (by kernel_rfl) Try.func3
    (ChangeSpec.witness6 (enc := enc) (C := Try.checked) false ⟨#[], #[.slice none 0 0], []⟩ 8 (by kernel_rfl) (by kernel_rfl) (by kernel_rfl) (by kernel_rfl)) ?_
  intro W base args ds gs before hval hW hcnd hsz _
  letI : Base := ⟨0, W⟩
  have hB : BaseW W := ⟨fun b hb => absurd hb (Nat.not_lt_zero _), Nat.zero_le _⟩
  have hW' := hW
  obtain ⟨p, q, hA0, hV, rfl, hfz, hnd⟩ := hW
  have hA : DataW.TrodAll enc Try.prog W 0 (fun _ => true) true Try.f3.params.toList args.toList ds p := hA0
  have hAll := hA
  rw [Try.params3] at hA
  obtain ⟨v1, vs1, d1, ds1, p1, q1, ha1, rfl, rfl, t1, hA⟩ := trodAll_cons hA
  obtain ⟨rfl, rfl, rfl⟩ := trodAll_nil hA
  obtain ⟨rfl, rfl⟩ := trodVars_none hV
  obtain rfl : args = #[v1] := by cases args; cases ha1; rfl
  rw [Try.params3] at hval
  obtain ⟨a1, l1, c1, rfl⟩ := okWide_slice Try.underlying22 (hval 0 22 v1 rfl rfl)
  obtain ⟨r1, xs1, e1, g1, b1⟩ := rd_of_slice (enc := fun x => [.int .i64 x]) (good := fun _ => True) (e := 1) kind1e (by simp) rfl cells1 (by decide) decI (trod_one kind1 t1 (fun xs h => by cases h))
  refine (law_calls hB (forestDepths _ xs1 _ _ (heapView_dom W) e1) (VRs.cons' r1 (VRs.nil _ _))).mono fun e W' ⟨he, bel⟩ => ?_
  subst he
  exact ⟨_, rfl, _, _, _, _, _, [], hW', trodAll_mk1 (shut_bool Try.underlying4 _), trodAll_stays laid bel _ _ _ _ reads hAll (fun x hx => hW'.lt x (by simpa using hx)), rfl, bel.frame _, fun h => by cases h⟩
theorem over : Rows.forestDepthsRow.holds Try.pinned (OpenSpec.ofChange Rows.forestDepthsSpec) :=
  OpenClaim.holds_of_wide 3 Try.f3 rfl rfl rfl rfl rfl rfl rfl ⟨rfl, rfl, rfl, rfl, rfl⟩ rfl rfl rfl rfl rfl (by kernel_rfl) Try.func3 (by kernel_rfl)
    (of_decide_eq_true (by kernel_rfl)) (by unfold Func.isWrapper; first | (rw [if_pos (by decide +kernel)]; kernel_rfl) | (rw [if_neg (by decide +kernel)]; exact ⟨rfl, rfl⟩))
    (fun os started H enc _ => lifted os started H enc)
end Go.Proofs.Ytfcbhgiccgommaa.forestDepthsLaw
namespace Go.Proofs.Ytfcbhgiccgommaa
theorem forestDepths_holds : Rows.ForestDepthsSaid := forestDepthsLaw.over
#print axioms forestDepths_holds
end Go.Proofs.Ytfcbhgiccgommaa
