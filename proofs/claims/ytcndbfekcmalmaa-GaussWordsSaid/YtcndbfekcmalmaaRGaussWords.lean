/- GaussWords returns true: of parts that a word may have, the word has both. The input is as it was. It holds for all arguments. -/
import Derived.Test.YtcndbfekcmalmaaRows
import Derived.Test.YtcndbfekcmalmaaP1c
namespace Go.Proofs.Ytcndbfekcmalmaa.gaussWordsLaw
open Go Go.Proofs Go.Proofs.YtcndbfekcmalmaaAbs Go.Proofs.Ytcndbfekcmalmaa.F1 Go.RowKit Go.ChangeShapes Go.WideShapes Go.ChangeAt
set_option linter.unusedVariables false
set_option linter.unusedSimpArgs false
theorem own : ownKnob Try.prog.godebug = none := by kernel_rfl
theorem laid : laidOutB Try.prog = true := by kernel_rfl
theorem reads : ∀ t ∈ Try.f6.params.toList, Try.prog.readableRec t = true ∧ t < Try.prog.types.size := by
  rw [Try.params6]; decide +kernel
theorem kind1 : ckinds Try.prog 9 41 = some [.flat (.int .u32)] := by kernel_rfl
theorem kind2 : ckinds Try.prog 9 41 = some [.flat (.int .u32)] := by kernel_rfl
set_option maxRecDepth 100000 in
theorem lifted (os : Os) (started : os.Started) (H : Type) (enc : TypeId × Value → H) :
    ReturnsInHanded {} Try.checked os 6 .any (Rows.gaussWordsSpec.pre6 enc Try.prog Try.f6 Rows.gaussWordsRow.domain false) (Rows.gaussWordsSpec.post enc Try.prog Try.f6 false true false false) := by
  refine returnsInHanded_of_change_sized (C := Try.checked) own started (by kernel_rfl) Try.func6
    (ChangeSpec.witness6 (enc := enc) (C := Try.checked) false ⟨#[], #[.int .u32 0, .int .u32 0], []⟩ 8 (by kernel_rfl) (by kernel_rfl) (by kernel_rfl) (by kernel_rfl)) ?_
  intro W base args ds gs before hval hW hcnd hsz _
  have hW' := hW
  obtain ⟨p, q, hA0, hV, rfl, hfz, hnd⟩ := hW
  have hA : DataW.TrodAll enc Try.prog W 0 (fun _ => true) true Try.f6.params.toList args.toList ds p := hA0
  have hAll := hA
  rw [Try.params6] at hA
  obtain ⟨v1, vs1, d1, ds1, p1, q1, ha1, rfl, rfl, t1, hA⟩ := trodAll_cons hA
  obtain ⟨v2, vs2, d2, ds2, p2, q2, rfl, rfl, rfl, t2, hA⟩ := trodAll_cons hA
  obtain ⟨rfl, rfl, rfl⟩ := trodAll_nil hA
  obtain ⟨rfl, rfl⟩ := trodVars_none hV
  obtain rfl : args = #[v1, v2] := by cases args; cases ha1; rfl
  rw [Try.params6] at hval
  obtain ⟨x1, rfl⟩ := okWide_int Try.underlying41 (hval 0 41 v1 rfl rfl)
  obtain ⟨y1, ey1, lo1, hi1⟩ := LKk (trod_one kind1 t1 (fun xs h => by cases h))
  have r1 : VRel (idR W) (szOf W) (.int .u32 y1) (.int .u32 x1) := by rw [ey1]; exact flatV_rel rfl
  obtain ⟨x2, rfl⟩ := okWide_int Try.underlying41 (hval 1 41 v2 rfl rfl)
  obtain ⟨y2, ey2, lo2, hi2⟩ := LKk (trod_one kind2 t2 (fun xs h => by cases h))
  have r2 : VRel (idR W) (szOf W) (.int .u32 y2) (.int .u32 x2) := by rw [ey2]; exact flatV_rel rfl
  refine (law_calls (GaussWords y1 y2 _ _ (heapView_dom W) lo1 hi1 lo2 hi2) (VRs.cons' r1 (VRs.cons' r2 (VRs.nil _ _)))).mono fun e W' ⟨he, bel⟩ => ?_
  subst he
  exact ⟨_, rfl, _, _, _, _, _, [], hW', trodAll_mk1 (shut_bool Try.underlying4 _), trodAll_stays laid bel _ _ _ _ reads hAll (fun x hx => hW'.lt x (by simpa using hx)), rfl, bel.frame _, fun h => by cases h⟩
theorem over : Rows.gaussWordsRow.holds Try.pinned (OpenSpec.ofChange Rows.gaussWordsSpec) :=
  OpenClaim.holds_of_wide 6 Try.f6 rfl rfl rfl rfl rfl rfl rfl ⟨rfl, rfl, rfl, rfl, rfl⟩ rfl rfl rfl rfl rfl (by kernel_rfl) Try.func6 (by kernel_rfl)
    (of_decide_eq_true (by kernel_rfl)) (by unfold Func.isWrapper; first | (rw [if_pos (by decide +kernel)]; kernel_rfl) | (rw [if_neg (by decide +kernel)]; exact ⟨rfl, rfl⟩))
    (fun os started H enc _ => lifted os started H enc)
end Go.Proofs.Ytcndbfekcmalmaa.gaussWordsLaw
namespace Go.Proofs.Ytcndbfekcmalmaa
theorem gaussWords_holds : Rows.GaussWordsSaid := gaussWordsLaw.over
#print axioms gaussWords_holds
end Go.Proofs.Ytcndbfekcmalmaa
