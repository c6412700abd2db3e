/- GeoApart returns true: no two of all that stands in a memory share a word, and all of it is in it. The input is as it was. It holds for all arguments. -/
import Derived.Test.YthigpfognkmegaaRows
import Derived.Test.YthigpfognkmegaaGeo
namespace Go.Proofs.Ythigpfognkmegaa.geoApartLaw
open Go Go.Proofs Go.Proofs.YthigpfognkmegaaAbs Go.Proofs.Ythigpfognkmegaa.F Go.RowKit Go.ChangeShapes Go.WideShapes Go.ChangeAt
set_option linter.unusedVariables false
set_option linter.unusedSimpArgs false
theorem own : ownKnob Try.prog.godebug = none := by kernel_rfl
theorem laid : laidOutB Try.prog = true := by kernel_rfl
theorem reads : ∀ t ∈ Try.f8.params.toList, Try.prog.readableRec t = true ∧ t < Try.prog.types.size := by
  rw [Try.params8]; decide +kernel
theorem kind1 : ckinds Try.prog 9 45 = some [.flat (.int .i64), .flat (.int .i64), .flat (.int .i64)] := by kernel_rfl
set_option maxRecDepth 100000 in
theorem lifted (os : Os) (started : os.Started) (H : Type) (enc : TypeId × Value → H) :
    ReturnsInHanded {} Try.checked os 8 .any (Rows.geoApartSpec.pre6 enc Try.prog Try.f8 Rows.geoApartRow.domain false) (Rows.geoApartSpec.post enc Try.prog Try.f8 false true false false) := by
  refine returnsInHanded_of_change_sized (C := Try.checked) own started (by kernel_rfl) Try.func8
    (ChangeSpec.witness6 (enc := enc) (C := Try.checked) false ⟨#[], #[.agg #[.int .i64 0, .int .i64 0, .int .i64 0]], []⟩ 8 (by kernel_rfl) (by kernel_rfl) (by kernel_rfl) (by kernel_rfl)) ?_
  intro W base args ds gs before hval hW hcnd hsz _
  have hW' := hW
  obtain ⟨p, q, hA0, hV, rfl, hfz, hnd⟩ := hW
  have hA : DataW.TrodAll enc Try.prog W 0 (fun _ => true) true Try.f8.params.toList args.toList ds p := hA0
  have hAll := hA
  rw [Try.params8] at hA
  obtain ⟨v1, vs1, d1, ds1, p1, q1, ha1, rfl, rfl, t1, hA⟩ := trodAll_cons hA
  obtain ⟨rfl, rfl, rfl⟩ := trodAll_nil hA
  obtain ⟨rfl, rfl⟩ := trodVars_none hV
  obtain rfl : args = #[v1] := by cases args; cases ha1; rfl
  rw [Try.params8] at hval
  obtain ⟨c1, rfl, _⟩ := okWide_struct Try.underlying45 (hval 0 45 v1 rfl rfl)
  obtain ⟨fu1, tr1⟩ := t1
  obtain ⟨x1, ex1, g1⟩ := decG _ (ckinds_sound 9 _ _ fu1 _ _ kind1 tr1)
  have r1 : VRel (idR W) (szOf W) (.agg (encG x1).toArray) (.agg c1) := by
    have : c1 = (encG x1).toArray := by rw [ex1]; rfl
    rw [this]; exact pureV_rel rfl
  refine (law_calls (GeoApartX x1 _ _ (heapView_dom W) g1) (VRs.cons' r1 (VRs.nil _ _))).mono fun e W' ⟨he, bel⟩ => ?_
  subst he
  exact ⟨_, rfl, _, _, _, _, _, [], hW', trodAll_mk1 (shut_bool Try.underlying4 _), trodAll_stays laid bel _ _ _ _ reads hAll (fun x hx => hW'.lt x (by simpa using hx)), rfl, bel.frame _, fun h => by cases h⟩
theorem over : Rows.geoApartRow.holds Try.pinned (OpenSpec.ofChange Rows.geoApartSpec) :=
  OpenClaim.holds_of_wide 8 Try.f8 rfl rfl rfl rfl rfl rfl rfl ⟨rfl, rfl, rfl, rfl, rfl⟩ rfl rfl rfl rfl rfl (by kernel_rfl) Try.func8 (by kernel_rfl)
    (of_decide_eq_true (by kernel_rfl)) (by unfold Func.isWrapper; first | (rw [if_pos (by decide +kernel)]; kernel_rfl) | (rw [if_neg (by decide +kernel)]; exact ⟨rfl, rfl⟩))
    (fun os started H enc _ => lifted os started H enc)
end Go.Proofs.Ythigpfognkmegaa.geoApartLaw
namespace Go.Proofs.Ythigpfognkmegaa
theorem geoApart_holds : Rows.GeoApartSaid := geoApartLaw.over
#print axioms geoApart_holds
end Go.Proofs.Ythigpfognkmegaa
