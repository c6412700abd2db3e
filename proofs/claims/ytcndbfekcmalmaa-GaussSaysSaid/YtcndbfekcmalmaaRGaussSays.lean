/- GaussSays returns true: any complex numbers, any words are as the document says. The input is as it was. It holds for all arguments. -/
import Derived.Test.YtcndbfekcmalmaaRows
import Derived.Test.YtcndbfekcmalmaaP1Ra
namespace Go.Proofs.Ytcndbfekcmalmaa.gaussSaysLaw
open Go Go.Proofs Go.Proofs.YtcndbfekcmalmaaAbs Go.Proofs.Ytcndbfekcmalmaa.F1 Go.RowKit Go.ChangeShapes Go.WideShapes Go.ChangeAt
set_option linter.unusedVariables false
set_option linter.unusedSimpArgs false
theorem own : ownKnob Try.prog.godebug = none := by kernel_rfl
theorem laid : laidOutB Try.prog = true := by kernel_rfl
theorem reads : ∀ t ∈ Try.f9.params.toList, Try.prog.readableRec t = true ∧ t < Try.prog.types.size := by
  rw [Try.params9]; decide +kernel
theorem kind1 : ckinds Try.prog 9 48 = some [.flat (.float .f64)] := by kernel_rfl
theorem kind2 : ckinds Try.prog 9 48 = some [.flat (.float .f64)] := by kernel_rfl
theorem kind3 : ckinds Try.prog 9 48 = some [.flat (.float .f64)] := by kernel_rfl
theorem kind4 : ckinds Try.prog 9 48 = some [.flat (.float .f64)] := by kernel_rfl
theorem kind5 : ckinds Try.prog 9 2 = some [.flat (.int .i64)] := by kernel_rfl
theorem kind6 : ckinds Try.prog 9 2 = some [.flat (.int .i64)] := by kernel_rfl
theorem kind7 : ckinds Try.prog 9 3 = some [.flat (.int .i64)] := by kernel_rfl
theorem kind8 : ckinds Try.prog 9 31 = some [.slice 34] := by kernel_rfl
theorem kind8e : ckinds Try.prog 9 34 = some [.flat (.int .u64)] := by kernel_rfl
theorem cells8 : Try.prog.cellsOf 34 = 1 := by kernel_rfl
set_option maxRecDepth 100000 in
theorem lifted (os : Os) (started : os.Started) (H : Type) (enc : TypeId × Value → H) :
    ReturnsInHanded {} Try.checked os 9 .any (Rows.gaussSaysSpec.pre6 enc Try.prog Try.f9 Rows.gaussSaysRow.domain false) (Rows.gaussSaysSpec.post enc Try.prog Try.f9 false true false false) := by
  refine returnsInHanded_of_change_sized (C := Try.checked) own started (by kernel_rfl) Try.func9
    (ChangeSpec.witness6 (enc := enc) (C := Try.checked) false ⟨#[], #[.float .f64 0, .float .f64 0, .float .f64 0, .float .f64 0, .int .i64 0, .int .i64 0, .int .i64 0, .slice none 0 0], []⟩ 8 (by kernel_rfl) (by kernel_rfl) (by kernel_rfl) (by kernel_rfl)) ?_
  intro W base args ds gs before hval hW hcnd hsz _
  have hW' := hW
  obtain ⟨p, q, hA0, hV, rfl, hfz, hnd⟩ := hW
  have hA : DataW.TrodAll enc Try.prog W 0 (fun _ => true) true Try.f9.params.toList args.toList ds p := hA0
  have hAll := hA
  rw [Try.params9] at hA
  obtain ⟨v1, vs1, d1, ds1, p1, q1, ha1, rfl, rfl, t1, hA⟩ := trodAll_cons hA
  obtain ⟨v2, vs2, d2, ds2, p2, q2, rfl, rfl, rfl, t2, hA⟩ := trodAll_cons hA
  obtain ⟨v3, vs3, d3, ds3, p3, q3, rfl, rfl, rfl, t3, hA⟩ := trodAll_cons hA
  obtain ⟨v4, vs4, d4, ds4, p4, q4, rfl, rfl, rfl, t4, hA⟩ := trodAll_cons hA
  obtain ⟨v5, vs5, d5, ds5, p5, q5, rfl, rfl, rfl, t5, hA⟩ := trodAll_cons hA
  obtain ⟨v6, vs6, d6, ds6, p6, q6, rfl, rfl, rfl, t6, hA⟩ := trodAll_cons hA
  obtain ⟨v7, vs7, d7, ds7, p7, q7, rfl, rfl, rfl, t7, hA⟩ := trodAll_cons hA
  obtain ⟨v8, vs8, d8, ds8, p8, q8, rfl, rfl, rfl, t8, hA⟩ := trodAll_cons hA
  obtain ⟨rfl, rfl, rfl⟩ := trodAll_nil hA
  obtain ⟨rfl, rfl⟩ := trodVars_none hV
  obtain rfl : args = #[v1, v2, v3, v4, v5, v6, v7, v8] := by cases args; cases ha1; rfl
  rw [Try.params9] at hval
  obtain ⟨x1, rfl⟩ := okWide_f64 Try.underlying48 (hval 0 48 v1 rfl rfl)
  obtain ⟨y1, ey1, lo1⟩ := LKf (trod_one kind1 t1 (fun xs h => by cases h))
  have r1 : VRel (idR W) (szOf W) (.float .f64 y1) (.float .f64 x1) := by rw [ey1]; exact flatV_rel rfl
  obtain ⟨x2, rfl⟩ := okWide_f64 Try.underlying48 (hval 1 48 v2 rfl rfl)
  obtain ⟨y2, ey2, lo2⟩ := LKf (trod_one kind2 t2 (fun xs h => by cases h))
  have r2 : VRel (idR W) (szOf W) (.float .f64 y2) (.float .f64 x2) := by rw [ey2]; exact flatV_rel rfl
  obtain ⟨x3, rfl⟩ := okWide_f64 Try.underlying48 (hval 2 48 v3 rfl rfl)
  obtain ⟨y3, ey3, lo3⟩ := LKf (trod_one kind3 t3 (fun xs h => by cases h))
  have r3 : VRel (idR W) (szOf W) (.float .f64 y3) (.float .f64 x3) := by rw [ey3]; exact flatV_rel rfl
  obtain ⟨x4, rfl⟩ := okWide_f64 Try.underlying48 (hval 3 48 v4 rfl rfl)
  obtain ⟨y4, ey4, lo4⟩ := LKf (trod_one kind4 t4 (fun xs h => by cases h))
  have r4 : VRel (idR W) (szOf W) (.float .f64 y4) (.float .f64 x4) := by rw [ey4]; exact flatV_rel rfl
  obtain ⟨x5, rfl⟩ := okWide_int Try.underlying2 (hval 4 2 v5 rfl rfl)
  obtain ⟨y5, ey5, lo5, hi5⟩ := LK.i64 (trod_one kind5 t5 (fun xs h => by cases h))
  have r5 : VRel (idR W) (szOf W) (.int .i64 y5) (.int .i64 x5) := by rw [ey5]; exact flatV_rel rfl
  obtain ⟨x6, rfl⟩ := okWide_int Try.underlying2 (hval 5 2 v6 rfl rfl)
  obtain ⟨y6, ey6, lo6, hi6⟩ := LK.i64 (trod_one kind6 t6 (fun xs h => by cases h))
  have r6 : VRel (idR W) (szOf W) (.int .i64 y6) (.int .i64 x6) := by rw [ey6]; exact flatV_rel rfl
  obtain ⟨x7, rfl⟩ := okWide_int Try.underlying3 (hval 6 3 v7 rfl rfl)
  obtain ⟨y7, ey7, lo7, hi7⟩ := LK.i64 (trod_one kind7 t7 (fun xs h => by cases h))
  have r7 : VRel (idR W) (szOf W) (.int .i64 y7) (.int .i64 x7) := by rw [ey7]; exact flatV_rel rfl
  obtain ⟨a8, l8, c8, rfl⟩ := okWide_slice Try.underlying31 (hval 7 31 v8 rfl rfl)
  obtain ⟨r8, xs8, e8, g8, b8⟩ := rd_of_slice (enc := fun w => [U w]) (good := fun _ => True) (e := 1) kind8e (by simp) rfl cells8 (by decide) decWo (trod_one kind8 t8 (fun xs h => by cases h))
  refine (law_calls (GaussSays y1 y2 y3 y4 y5 y6 y7 _ xs8 _ _ (heapView_dom W) lo1 lo2 lo3 lo4 lo5 hi5 lo6 hi6 lo7 hi7 e8) (VRs.cons' r1 (VRs.cons' r2 (VRs.cons' r3 (VRs.cons' r4 (VRs.cons' r5 (VRs.cons' r6 (VRs.cons' r7 (VRs.cons' r8 (VRs.nil _ _)))))))))).mono fun e W' ⟨he, bel⟩ => ?_
  subst he
  exact ⟨_, rfl, _, _, _, _, _, [], hW', trodAll_mk1 (shut_bool Try.underlying4 _), trodAll_stays laid bel _ _ _ _ reads hAll (fun x hx => hW'.lt x (by simpa using hx)), rfl, bel.frame _, fun h => by cases h⟩
theorem over : Rows.gaussSaysRow.holds Try.pinned (OpenSpec.ofChange Rows.gaussSaysSpec) :=
  OpenClaim.holds_of_wide 9 Try.f9 rfl rfl rfl rfl rfl rfl rfl ⟨rfl, rfl, rfl, rfl, rfl⟩ rfl rfl rfl rfl rfl (by kernel_rfl) Try.func9 (by kernel_rfl)
    (of_decide_eq_true (by kernel_rfl)) (by unfold Func.isWrapper; first | (rw [if_pos (by decide +kernel)]; kernel_rfl) | (rw [if_neg (by decide +kernel)]; exact ⟨rfl, rfl⟩))
    (fun os started H enc _ => lifted os started H enc)
end Go.Proofs.Ytcndbfekcmalmaa.gaussSaysLaw
namespace Go.Proofs.Ytcndbfekcmalmaa
theorem gaussSays_holds : Rows.GaussSaysSaid := gaussSaysLaw.over
#print axioms gaussSays_holds
end Go.Proofs.Ytcndbfekcmalmaa
