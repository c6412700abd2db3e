/- ThingSays returns true: any thing, any words, any kind are as the document says. The input is as it was. It holds for all arguments. -/
import Derived.Test.YtafpgojoemcgnaaRows
import Derived.Test.YtafpgojoemcgnaaP11Ba
namespace Go.Proofs.Ytafpgojoemcgnaa.thingSaysLaw
open Go Go.Proofs Go.Proofs.YtafpgojoemcgnaaAbs Go.Proofs.Ytafpgojoemcgnaa.F11 Go.RowKit Go.ChangeShapes Go.WideShapes Go.ChangeAt
set_option linter.unusedVariables false
set_option linter.unusedSimpArgs false
theorem own : ownKnob Try.prog.godebug = none := by kernel_rfl
theorem laid : laidOutB Try.prog = true := by kernel_rfl
theorem reads : ∀ t ∈ Try.f4.params.toList, Try.prog.readableRec t = true ∧ t < Try.prog.types.size := by
  rw [Try.params4]; decide +kernel
theorem kind1 : ckinds Try.prog 9 26 = some [.flat (.int .i64), .flat (.int .i64), .flat (.int .i64), .flat (.int .i64), .flat (.int .i64), .flat (.int .i64), .flat (.int .i64), .flat .bool, .flat (.int .u64), .flat (.int .u64), .flat (.int .u64), .flat (.int .u64), .flat (.int .u64)] := by kernel_rfl
theorem kind2 : ckinds Try.prog 9 29 = some [.slice 23] := by kernel_rfl
theorem kind2e : ckinds Try.prog 9 23 = some [.flat (.int .u64)] := by kernel_rfl
theorem cells2 : Try.prog.cellsOf 23 = 1 := by kernel_rfl
theorem kind3 : ckinds Try.prog 9 3 = some [.flat (.int .i64)] := by kernel_rfl
theorem kind4 : ckinds Try.prog 9 3 = some [.flat (.int .i64)] := by kernel_rfl
theorem kind5 : ckinds Try.prog 9 3 = some [.flat (.int .i64)] := by kernel_rfl
set_option maxRecDepth 100000 in
theorem lifted (os : Os) (started : os.Started) (H : Type) (enc : TypeId × Value → H) :
    ReturnsInHanded {} Try.checked os 4 .any (Rows.thingSaysSpec.pre6 enc Try.prog Try.f4 Rows.thingSaysRow.domain false) (Rows.thingSaysSpec.post enc Try.prog Try.f4 false true false false) := by
  refine returnsInHanded_of_change_sized (C := Try.checked) own started (by kernel_rfl) Try.func4
    (ChangeSpec.witness6 (enc := enc) (C := Try.checked) false ⟨#[], #[.agg #[.int .i64 0, .int .i64 0, .int .i64 0, .int .i64 0, .int .i64 0, .int .i64 0, .int .i64 0, .bool false, .int .u64 0, .int .u64 0, .int .u64 0, .int .u64 0, .int .u64 0], .slice none 0 0, .int .i64 0, .int .i64 0, .int .i64 0], []⟩ 8 (by kernel_rfl) (by kernel_rfl) (by kernel_rfl) (by kernel_rfl)) ?_
  intro W base args ds gs before hval hW hcnd hsz _
  have hW' := hW
  obtain ⟨p, q, hA0, hV, rfl, hfz, hnd⟩ := hW
  have hA : DataW.TrodAll enc Try.prog W 0 (fun _ => true) true Try.f4.params.toList args.toList ds p := hA0
  have hAll := hA
  rw [Try.params4] at hA
  obtain ⟨v1, vs1, d1, ds1, p1, q1, ha1, rfl, rfl, t1, hA⟩ := trodAll_cons hA
  obtain ⟨v2, vs2, d2, ds2, p2, q2, rfl, rfl, rfl, t2, hA⟩ := trodAll_cons hA
  obtain ⟨v3, vs3, d3, ds3, p3, q3, rfl, rfl, rfl, t3, hA⟩ := trodAll_cons hA
  obtain ⟨v4, vs4, d4, ds4, p4, q4, rfl, rfl, rfl, t4, hA⟩ := trodAll_cons hA
  obtain ⟨v5, vs5, d5, ds5, p5, q5, rfl, rfl, rfl, t5, hA⟩ := trodAll_cons hA
  obtain ⟨rfl, rfl, rfl⟩ := trodAll_nil hA
  obtain ⟨rfl, rfl⟩ := trodVars_none hV
  obtain rfl : args = #[v1, v2, v3, v4, v5] := by cases args; cases ha1; rfl
  rw [Try.params4] at hval
  obtain ⟨c1, rfl, _⟩ := okWide_struct Try.underlying26 (hval 0 26 v1 rfl rfl)
  obtain ⟨fu1, tr1⟩ := t1
  obtain ⟨x1, ex1, g1⟩ := decTh _ (ckinds_sound 9 _ _ fu1 _ _ kind1 tr1)
  have r1 : VRel (idR W) (szOf W) (.agg (cT x1).toArray) (.agg c1) := by
    have : c1 = (cT x1).toArray := by rw [ex1]; rfl
    rw [this]; exact pureV_rel rfl
  obtain ⟨a2, l2, c2, rfl⟩ := okWide_slice Try.underlying29 (hval 1 29 v2 rfl rfl)
  obtain ⟨r2, xs2, e2, g2, b2⟩ := rd_of_slice (enc := fun w => [U w]) (good := fun _ => True) (e := 1) kind2e (by simp) rfl cells2 (by decide) decW (trod_one kind2 t2 (fun xs h => by cases h))
  obtain ⟨x3, rfl⟩ := okWide_int Try.underlying3 (hval 2 3 v3 rfl rfl)
  obtain ⟨y3, ey3, lo3, hi3⟩ := LK.i64 (trod_one kind3 t3 (fun xs h => by cases h))
  have r3 : VRel (idR W) (szOf W) (.int .i64 y3) (.int .i64 x3) := by rw [ey3]; exact flatV_rel rfl
  obtain ⟨x4, rfl⟩ := okWide_int Try.underlying3 (hval 3 3 v4 rfl rfl)
  obtain ⟨y4, ey4, lo4, hi4⟩ := LK.i64 (trod_one kind4 t4 (fun xs h => by cases h))
  have r4 : VRel (idR W) (szOf W) (.int .i64 y4) (.int .i64 x4) := by rw [ey4]; exact flatV_rel rfl
  obtain ⟨x5, rfl⟩ := okWide_int Try.underlying3 (hval 4 3 v5 rfl rfl)
  obtain ⟨y5, ey5, lo5, hi5⟩ := LK.i64 (trod_one kind5 t5 (fun xs h => by cases h))
  have r5 : VRel (idR W) (szOf W) (.int .i64 y5) (.int .i64 x5) := by rw [ey5]; exact flatV_rel rfl
  refine (law_calls (ThingSays x1 _ xs2 y3 y4 y5 _ _ (heapView_dom W) g1 g2 e2 lo3 hi3 lo4 hi4 lo5 hi5) (VRs.cons' r1 (VRs.cons' r2 (VRs.cons' r3 (VRs.cons' r4 (VRs.cons' r5 (VRs.nil _ _))))))).mono fun e W' ⟨he, bel⟩ => ?_
  subst he
  exact ⟨_, rfl, _, _, _, _, _, [], hW', trodAll_mk1 (shut_bool Try.underlying4 _), trodAll_stays laid bel _ _ _ _ reads hAll (fun x hx => hW'.lt x (by simpa using hx)), rfl, bel.frame _, fun h => by cases h⟩
theorem over : Rows.thingSaysRow.holds Try.pinned (OpenSpec.ofChange Rows.thingSaysSpec) :=
  OpenClaim.holds_of_wide 4 Try.f4 rfl rfl rfl rfl rfl rfl rfl ⟨rfl, rfl, rfl, rfl, rfl⟩ rfl rfl rfl rfl rfl (by kernel_rfl) Try.func4 (by kernel_rfl)
    (of_decide_eq_true (by kernel_rfl)) (by unfold Func.isWrapper; first | (rw [if_pos (by decide +kernel)]; kernel_rfl) | (rw [if_neg (by decide +kernel)]; exact ⟨rfl, rfl⟩))
    (fun os started H enc _ => lifted os started H enc)
end Go.Proofs.Ytafpgojoemcgnaa.thingSaysLaw
namespace Go.Proofs.Ytafpgojoemcgnaa
theorem thingSays_holds : Rows.ThingSaysSaid := thingSaysLaw.over
#print axioms thingSays_holds
end Go.Proofs.Ytafpgojoemcgnaa
