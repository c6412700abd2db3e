/- SuperSays returns true: any numbers, any words are written, read, found as the document says. The input is as it was. It holds for all arguments. -/
import Derived.Test.YtcndbfekcmalmaaRows
import Derived.Test.YtcndbfekcmalmaaP6Ra
namespace Go.Proofs.Ytcndbfekcmalmaa.superSaysLaw
open Go Go.Proofs Go.Proofs.YtcndbfekcmalmaaAbs Go.Proofs.Ytcndbfekcmalmaa.F6 Go.RowKit Go.ChangeShapes Go.WideShapes Go.ChangeAt
set_option linter.unusedVariables false
set_option linter.unusedSimpArgs false
theorem own : ownKnob Try.prog.godebug = none := by kernel_rfl
theorem laid : laidOutB Try.prog = true := by kernel_rfl
theorem reads : ∀ t ∈ Try.f12.params.toList, Try.prog.readableRec t = true ∧ t < Try.prog.types.size := by
  rw [Try.params12]; decide +kernel
theorem kind1 : ckinds Try.prog 9 54 = some [.flat (.int .i64), .flat (.int .i64), .flat (.int .i64), .flat (.int .u64)] := by kernel_rfl
theorem kind2 : ckinds Try.prog 9 31 = some [.slice 34] := by kernel_rfl
theorem kind2e : ckinds Try.prog 9 34 = some [.flat (.int .u64)] := by kernel_rfl
theorem cells2 : Try.prog.cellsOf 34 = 1 := by kernel_rfl
set_option maxRecDepth 100000 in
theorem lifted (os : Os) (started : os.Started) (H : Type) (enc : TypeId × Value → H) :
    ReturnsInHanded {} Try.checked os 12 .any (Rows.superSaysSpec.pre6 enc Try.prog Try.f12 Rows.superSaysRow.domain false) (Rows.superSaysSpec.post enc Try.prog Try.f12 false true false false) := by
  refine returnsInHanded_of_change_sized (C := Try.checked) own started (by kernel_rfl) Try.func12
    (ChangeSpec.witness6 (enc := enc) (C := Try.checked) false ⟨#[], #[.agg #[.int .i64 0, .int .i64 0, .int .i64 0, .int .u64 0], .slice none 0 0], []⟩ 8 (by kernel_rfl) (by kernel_rfl) (by kernel_rfl) (by kernel_rfl)) ?_
  intro W base args ds gs before hval hW hcnd hsz _
  have hW' := hW
  obtain ⟨p, q, hA0, hV, rfl, hfz, hnd⟩ := hW
  have hA : DataW.TrodAll enc Try.prog W 0 (fun _ => true) true Try.f12.params.toList args.toList ds p := hA0
  have hAll := hA
  rw [Try.params12] at hA
  obtain ⟨v1, vs1, d1, ds1, p1, q1, ha1, rfl, rfl, t1, hA⟩ := trodAll_cons hA
  obtain ⟨v2, vs2, d2, ds2, p2, q2, rfl, rfl, rfl, t2, hA⟩ := trodAll_cons hA
  obtain ⟨rfl, rfl, rfl⟩ := trodAll_nil hA
  obtain ⟨rfl, rfl⟩ := trodVars_none hV
  obtain rfl : args = #[v1, v2] := by cases args; cases ha1; rfl
  rw [Try.params12] at hval
  obtain ⟨c1, rfl, _⟩ := okWide_struct Try.underlying54 (hval 0 54 v1 rfl rfl)
  obtain ⟨fu1, tr1⟩ := t1
  obtain ⟨a1, b1, d1, w1, r1⟩ := decSuper _ (ckinds_sound 9 _ _ fu1 _ _ kind1 tr1)
  obtain ⟨a2, l2, c2, rfl⟩ := okWide_slice Try.underlying31 (hval 1 31 v2 rfl rfl)
  obtain ⟨r2, xs2, e2, g2, b2⟩ := rd_of_slice (enc := fun w => [U w]) (good := fun _ => True) (e := 1) kind2e (by simp) rfl cells2 (by decide) decWo (trod_one kind2 t2 (fun xs h => by cases h))
  refine (law_calls (SuperSays a1 b1 d1 w1 _ xs2 _ _ (heapView_dom W)  e2) (VRs.cons' r1 (VRs.cons' r2 (VRs.nil _ _)))).mono fun e W' ⟨he, bel⟩ => ?_
  subst he
  exact ⟨_, rfl, _, _, _, _, _, [], hW', trodAll_mk1 (shut_bool Try.underlying4 _), trodAll_stays laid bel _ _ _ _ reads hAll (fun x hx => hW'.lt x (by simpa using hx)), rfl, bel.frame _, fun h => by cases h⟩
theorem over : Rows.superSaysRow.holds Try.pinned (OpenSpec.ofChange Rows.superSaysSpec) :=
  OpenClaim.holds_of_wide 12 Try.f12 rfl rfl rfl rfl rfl rfl rfl ⟨rfl, rfl, rfl, rfl, rfl⟩ rfl rfl rfl rfl rfl (by kernel_rfl) Try.func12 (by kernel_rfl)
    (of_decide_eq_true (by kernel_rfl)) (by unfold Func.isWrapper; first | (rw [if_pos (by decide +kernel)]; kernel_rfl) | (rw [if_neg (by decide +kernel)]; exact ⟨rfl, rfl⟩))
    (fun os started H enc _ => lifted os started H enc)
end Go.Proofs.Ytcndbfekcmalmaa.superSaysLaw
namespace Go.Proofs.Ytcndbfekcmalmaa
theorem superSays_holds : Rows.SuperSaysSaid := superSaysLaw.over
#print axioms superSays_holds
end Go.Proofs.Ytcndbfekcmalmaa
