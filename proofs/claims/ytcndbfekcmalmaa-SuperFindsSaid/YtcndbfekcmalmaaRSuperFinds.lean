/- SuperFinds returns true: of a memory with a superblock at one end alone, that is found; of both, the first. The input is as it was. It holds for all arguments. -/
import Derived.Test.YtcndbfekcmalmaaRows
import Derived.Test.YtcndbfekcmalmaaP6Fa
namespace Go.Proofs.Ytcndbfekcmalmaa.superFindsLaw
open Go Go.Proofs Go.Proofs.YtcndbfekcmalmaaAbs Go.Proofs.Ytcndbfekcmalmaa.F6 Go.RowKit Go.ChangeShapes Go.WideShapes Go.ChangeAt
set_option linter.unusedVariables false
set_option linter.unusedSimpArgs false
theorem own : ownKnob Try.prog.godebug = none := by kernel_rfl
theorem laid : laidOutB Try.prog = true := by kernel_rfl
theorem reads : ∀ t ∈ Try.f13.params.toList, Try.prog.readableRec t = true ∧ t < Try.prog.types.size := by
  rw [Try.params13]; decide +kernel
theorem kind1 : ckinds Try.prog 9 54 = some [.flat (.int .i64), .flat (.int .i64), .flat (.int .i64), .flat (.int .u64)] := by kernel_rfl
theorem kind2 : ckinds Try.prog 9 54 = some [.flat (.int .i64), .flat (.int .i64), .flat (.int .i64), .flat (.int .u64)] := by kernel_rfl
theorem kind3 : ckinds Try.prog 9 3 = some [.flat (.int .i64)] := by kernel_rfl
theorem kind4 : ckinds Try.prog 9 31 = some [.slice 34] := by kernel_rfl
theorem kind4e : ckinds Try.prog 9 34 = some [.flat (.int .u64)] := by kernel_rfl
theorem cells4 : Try.prog.cellsOf 34 = 1 := by kernel_rfl
set_option maxRecDepth 100000 in
theorem lifted (os : Os) (started : os.Started) (H : Type) (enc : TypeId × Value → H) :
    ReturnsInHanded {} Try.checked os 13 .any (Rows.superFindsSpec.pre6 enc Try.prog Try.f13 Rows.superFindsRow.domain false) (Rows.superFindsSpec.post enc Try.prog Try.f13 false true false false) := by
  refine returnsInHanded_of_change_sized (C := Try.checked) own started (by kernel_rfl) Try.func13
    (ChangeSpec.witness6 (enc := enc) (C := Try.checked) false ⟨#[], #[.agg #[.int .i64 0, .int .i64 0, .int .i64 0, .int .u64 0], .agg #[.int .i64 0, .int .i64 0, .int .i64 0, .int .u64 0], .int .i64 0, .slice none 0 0], []⟩ 8 (by kernel_rfl) (by kernel_rfl) (by kernel_rfl) (by kernel_rfl)) ?_
  intro W base args ds gs before hval hW hcnd hsz _
  have hW' := hW
  obtain ⟨p, q, hA0, hV, rfl, hfz, hnd⟩ := hW
  have hA : DataW.TrodAll enc Try.prog W 0 (fun _ => true) true Try.f13.params.toList args.toList ds p := hA0
  have hAll := hA
  rw [Try.params13] at hA
  obtain ⟨v1, vs1, d1, ds1, p1, q1, ha1, rfl, rfl, t1, hA⟩ := trodAll_cons hA
  obtain ⟨v2, vs2, d2, ds2, p2, q2, rfl, rfl, rfl, t2, hA⟩ := trodAll_cons hA
  obtain ⟨v3, vs3, d3, ds3, p3, q3, rfl, rfl, rfl, t3, hA⟩ := trodAll_cons hA
  obtain ⟨v4, vs4, d4, ds4, p4, q4, rfl, rfl, rfl, t4, hA⟩ := trodAll_cons hA
  obtain ⟨rfl, rfl, rfl⟩ := trodAll_nil hA
  obtain ⟨rfl, rfl⟩ := trodVars_none hV
  obtain rfl : args = #[v1, v2, v3, v4] := by cases args; cases ha1; rfl
  rw [Try.params13] at hval
  obtain ⟨c1, rfl, _⟩ := okWide_struct Try.underlying54 (hval 0 54 v1 rfl rfl)
  obtain ⟨fu1, tr1⟩ := t1
  obtain ⟨a1, b1, d1, w1, r1⟩ := decSuper _ (ckinds_sound 9 _ _ fu1 _ _ kind1 tr1)
  obtain ⟨c2, rfl, _⟩ := okWide_struct Try.underlying54 (hval 1 54 v2 rfl rfl)
  obtain ⟨fu2, tr2⟩ := t2
  obtain ⟨a2, b2, d2, w2, r2⟩ := decSuper _ (ckinds_sound 9 _ _ fu2 _ _ kind2 tr2)
  obtain ⟨x3, rfl⟩ := okWide_int Try.underlying3 (hval 2 3 v3 rfl rfl)
  obtain ⟨y3, ey3, lo3, hi3⟩ := LK.i64 (trod_one kind3 t3 (fun xs h => by cases h))
  have r3 : VRel (idR W) (szOf W) (.int .i64 y3) (.int .i64 x3) := by rw [ey3]; exact flatV_rel rfl
  obtain ⟨a4, l4, c4, rfl⟩ := okWide_slice Try.underlying31 (hval 3 31 v4 rfl rfl)
  obtain ⟨r4, xs4, e4, g4, b4⟩ := rd_of_slice (enc := fun w => [U w]) (good := fun _ => True) (e := 1) kind4e (by simp) rfl cells4 (by decide) decWo (trod_one kind4 t4 (fun xs h => by cases h))
  refine (law_calls (SuperFinds a1 b1 d1 w1 a2 b2 d2 w2 y3 _ xs4 _ _ (heapView_dom W)   lo3 hi3 e4) (VRs.cons' r1 (VRs.cons' r2 (VRs.cons' r3 (VRs.cons' r4 (VRs.nil _ _)))))).mono fun e W' ⟨he, bel⟩ => ?_
  subst he
  exact ⟨_, rfl, _, _, _, _, _, [], hW', trodAll_mk1 (shut_bool Try.underlying4 _), trodAll_stays laid bel _ _ _ _ reads hAll (fun x hx => hW'.lt x (by simpa using hx)), rfl, bel.frame _, fun h => by cases h⟩
theorem over : Rows.superFindsRow.holds Try.pinned (OpenSpec.ofChange Rows.superFindsSpec) :=
  OpenClaim.holds_of_wide 13 Try.f13 rfl rfl rfl rfl rfl rfl rfl ⟨rfl, rfl, rfl, rfl, rfl⟩ rfl rfl rfl rfl rfl (by kernel_rfl) Try.func13 (by kernel_rfl)
    (of_decide_eq_true (by kernel_rfl)) (by unfold Func.isWrapper; first | (rw [if_pos (by decide +kernel)]; kernel_rfl) | (rw [if_neg (by decide +kernel)]; exact ⟨rfl, rfl⟩))
    (fun os started H enc _ => lifted os started H enc)
end Go.Proofs.Ytcndbfekcmalmaa.superFindsLaw
namespace Go.Proofs.Ytcndbfekcmalmaa
theorem superFinds_holds : Rows.SuperFindsSaid := superFindsLaw.over
#print axioms superFinds_holds
end Go.Proofs.Ytcndbfekcmalmaa
