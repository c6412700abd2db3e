/- TagSays returns true: any fields, values and words are put, told and left as the chapter says. The input is as it was. It holds for all arguments. -/
import Derived.Test.YthigpfognkmegaaRows
import Derived.Test.YthigpfognkmegaaTag
namespace Go.Proofs.Ythigpfognkmegaa.tagSaysLaw
open Go Go.Proofs Go.Proofs.YthigpfognkmegaaAbs Go.Proofs.Ythigpfognkmegaa.F Go.RowKit Go.ChangeShapes Go.WideShapes Go.ChangeAt
set_option linter.unusedVariables false
set_option linter.unusedSimpArgs false
theorem own : ownKnob Try.prog.godebug = none := by kernel_rfl
theorem laid : laidOutB Try.prog = true := by kernel_rfl
theorem reads : ∀ t ∈ Try.f10.params.toList, Try.prog.readableRec t = true ∧ t < Try.prog.types.size := by
  rw [Try.params10]; decide +kernel
theorem kind1 : ckinds Try.prog 9 22 = some [.slice 34] := by kernel_rfl
theorem kind1e : ckinds Try.prog 9 34 = some [.flat (.int .i64), .flat (.int .i64)] := by kernel_rfl
theorem cells1 : Try.prog.cellsOf 34 = 2 := by kernel_rfl
theorem kind2 : ckinds Try.prog 9 26 = some [.slice 23] := by kernel_rfl
theorem kind2e : ckinds Try.prog 9 23 = some [.flat (.int .u64)] := by kernel_rfl
theorem cells2 : Try.prog.cellsOf 23 = 1 := by kernel_rfl
theorem kind3 : ckinds Try.prog 9 23 = some [.flat (.int .u64)] := by kernel_rfl
theorem kind4 : ckinds Try.prog 9 23 = some [.flat (.int .u64)] := by kernel_rfl
theorem kind5 : ckinds Try.prog 9 3 = some [.flat (.int .i64)] := by kernel_rfl
set_option maxRecDepth 100000 in
theorem lifted (os : Os) (started : os.Started) (H : Type) (enc : TypeId × Value → H) :
    ReturnsInHanded {} Try.checked os 10 .any (Rows.tagSaysSpec.pre6 enc Try.prog Try.f10 Rows.tagSaysRow.domain false) (Rows.tagSaysSpec.post enc Try.prog Try.f10 false true false false) := by
  refine returnsInHanded_of_change_sized (C := Try.checked) own started (by kernel_rfl) Try.func10
    (ChangeSpec.witness6 (enc := enc) (C := Try.checked) false ⟨#[], #[.slice none 0 0, .slice none 0 0, .int .u64 0, .int .u64 0, .int .i64 0], []⟩ 8 (by kernel_rfl) (by kernel_rfl) (by kernel_rfl) (by kernel_rfl)) ?_
  intro W base args ds gs before hval hW hcnd hsz _
  have hW' := hW
  obtain ⟨p, q, hA0, hV, rfl, hfz, hnd⟩ := hW
  have hA : DataW.TrodAll enc Try.prog W 0 (fun _ => true) true Try.f10.params.toList args.toList ds p := hA0
  have hAll := hA
  rw [Try.params10] at hA
  obtain ⟨v1, vs1, d1, ds1, p1, q1, ha1, rfl, rfl, t1, hA⟩ := trodAll_cons hA
  obtain ⟨v2, vs2, d2, ds2, p2, q2, rfl, rfl, rfl, t2, hA⟩ := trodAll_cons hA
  obtain ⟨v3, vs3, d3, ds3, p3, q3, rfl, rfl, rfl, t3, hA⟩ := trodAll_cons hA
  obtain ⟨v4, vs4, d4, ds4, p4, q4, rfl, rfl, rfl, t4, hA⟩ := trodAll_cons hA
  obtain ⟨v5, vs5, d5, ds5, p5, q5, rfl, rfl, rfl, t5, hA⟩ := trodAll_cons hA
  obtain ⟨rfl, rfl, rfl⟩ := trodAll_nil hA
  obtain ⟨rfl, rfl⟩ := trodVars_none hV
  obtain rfl : args = #[v1, v2, v3, v4, v5] := by cases args; cases ha1; rfl
  rw [Try.params10] at hval
  obtain ⟨a1, l1, c1, rfl⟩ := okWide_slice Try.underlying22 (hval 0 22 v1 rfl rfl)
  obtain ⟨r1, xs1, e1, g1, b1⟩ := rd_of_slice (enc := encF) (good := fOk) (e := 2) kind1e (by simp) rfl cells1 (by decide) decF (trod_one kind1 t1 (fun xs h => by cases h))
  obtain ⟨a2, l2, c2, rfl⟩ := okWide_slice Try.underlying26 (hval 1 26 v2 rfl rfl)
  obtain ⟨r2, xs2, e2, g2, b2⟩ := rd_of_slice (enc := (fun w => [U w])) (good := (fun _ => True)) (e := 1) kind2e (by simp) rfl cells2 (by decide) decW (trod_one kind2 t2 (fun xs h => by cases h))
  obtain ⟨x3, rfl⟩ := okWide_int Try.underlying23 (hval 2 23 v3 rfl rfl)
  obtain ⟨y3, ey3⟩ := LK.u64 (trod_one kind3 t3 (fun xs h => by cases h))
  have r3 : VRel (idR W) (szOf W) (U y3) (.int .u64 x3) := by rw [ey3]; exact flatV_rel (U_flatV y3)
  obtain ⟨x4, rfl⟩ := okWide_int Try.underlying23 (hval 3 23 v4 rfl rfl)
  obtain ⟨y4, ey4⟩ := LK.u64 (trod_one kind4 t4 (fun xs h => by cases h))
  have r4 : VRel (idR W) (szOf W) (U y4) (.int .u64 x4) := by rw [ey4]; exact flatV_rel (U_flatV y4)
  obtain ⟨x5, rfl⟩ := okWide_int Try.underlying3 (hval 4 3 v5 rfl rfl)
  obtain ⟨y5, ey5, lo5, hi5⟩ := LK.i64 (trod_one kind5 t5 (fun xs h => by cases h))
  have r5 : VRel (idR W) (szOf W) (.int .i64 y5) (.int .i64 x5) := by rw [ey5]; exact flatV_rel rfl
  refine (law_calls (TagSays _ xs1 _ xs2 y3 y4 y5 _ _ (heapView_dom W) g1 e1 g2 e2 lo5 hi5) (VRs.cons' r1 (VRs.cons' r2 (VRs.cons' r3 (VRs.cons' r4 (VRs.cons' r5 (VRs.nil _ _))))))).mono fun e W' ⟨he, bel⟩ => ?_
  subst he
  exact ⟨_, rfl, _, _, _, _, _, [], hW', trodAll_mk1 (shut_bool Try.underlying4 _), trodAll_stays laid bel _ _ _ _ reads hAll (fun x hx => hW'.lt x (by simpa using hx)), rfl, bel.frame _, fun h => by cases h⟩
theorem over : Rows.tagSaysRow.holds Try.pinned (OpenSpec.ofChange Rows.tagSaysSpec) :=
  OpenClaim.holds_of_wide 10 Try.f10 rfl rfl rfl rfl rfl rfl rfl ⟨rfl, rfl, rfl, rfl, rfl⟩ rfl rfl rfl rfl rfl (by kernel_rfl) Try.func10 (by kernel_rfl)
    (of_decide_eq_true (by kernel_rfl)) (by unfold Func.isWrapper; first | (rw [if_pos (by decide +kernel)]; kernel_rfl) | (rw [if_neg (by decide +kernel)]; exact ⟨rfl, rfl⟩))
    (fun os started H enc _ => lifted os started H enc)
end Go.Proofs.Ythigpfognkmegaa.tagSaysLaw
namespace Go.Proofs.Ythigpfognkmegaa
theorem tagSays_holds : Rows.TagSaysSaid := tagSaysLaw.over
#print axioms tagSays_holds
end Go.Proofs.Ythigpfognkmegaa
