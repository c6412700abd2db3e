/- FindWays returns true: all ways that are told lead there; a slot to which one leads is reached. The input is as it was. It holds for all arguments. -/
import Derived.Test.YtkcahnefekkfaaaRows
import Derived.Test.YtkcahnefekkfaaaP13Wc
namespace Go.Proofs.Ytkcahnefekkfaaa.findWaysLaw
open Go Go.Proofs Go.Proofs.YtkcahnefekkfaaaAbs Go.Proofs.Ytkcahnefekkfaaa.F13W Go.RowKit Go.ChangeShapes Go.WideShapes Go.ChangeAt
set_option linter.unusedVariables false
set_option linter.unusedSimpArgs false
theorem own : ownKnob Try.prog.godebug = none := by kernel_rfl
theorem laid : laidOutB Try.prog = true := by kernel_rfl
theorem reads : ∀ t ∈ Try.f10.params.toList, Try.prog.readableRec t = true ∧ t < Try.prog.types.size := by
  rw [Try.params10]; decide +kernel
theorem kind1 : ckinds Try.prog 9 27 = some [.flat (.int .i64), .flat (.int .i64), .flat (.int .i64), .slice 34, .slice 71] := by kernel_rfl
theorem kind2 : ckinds Try.prog 9 3 = some [.flat (.int .i64)] := by kernel_rfl
theorem kind3 : ckinds Try.prog 9 3 = some [.flat (.int .i64)] := by kernel_rfl
set_option maxRecDepth 100000 in
theorem lifted (os : Os) (started : os.Started) (H : Type) (enc : TypeId × Value → H) :
    ReturnsInHanded {} Try.checked os 10 .any (Rows.findWaysSpec.pre6 enc Try.prog Try.f10 Rows.findWaysRow.domain false) (Rows.findWaysSpec.post enc Try.prog Try.f10 false true false false) := by
  refine returnsInHanded_of_change_sized (C := Try.checked) own started (by kernel_rfl) Try.func10
    (ChangeSpec.witness6 (enc := enc) (C := Try.checked) false ⟨#[], #[.agg #[.int .i64 0, .int .i64 0, .int .i64 0, .slice none 0 0, .slice none 0 0], .int .i64 0, .int .i64 0], []⟩ 8 (by kernel_rfl) (by kernel_rfl) (by kernel_rfl) (by kernel_rfl)) ?_
  intro W base args ds gs before hval hW hcnd hsz _
  letI : Base := ⟨0, W⟩
  have hB : BaseW W := ⟨fun b hb => absurd hb (Nat.not_lt_zero _), Nat.zero_le _⟩
  have hW' := hW
  obtain ⟨p, q, hA0, hV, rfl, hfz, hnd⟩ := hW
  have hA : DataW.TrodAll enc Try.prog W 0 (fun _ => true) true Try.f10.params.toList args.toList ds p := hA0
  have hAll := hA
  rw [Try.params10] at hA
  obtain ⟨v1, vs1, d1, ds1, p1, q1, ha1, rfl, rfl, t1, hA⟩ := trodAll_cons hA
  obtain ⟨v2, vs2, d2, ds2, p2, q2, rfl, rfl, rfl, t2, hA⟩ := trodAll_cons hA
  obtain ⟨v3, vs3, d3, ds3, p3, q3, rfl, rfl, rfl, t3, hA⟩ := trodAll_cons hA
  obtain ⟨rfl, rfl, rfl⟩ := trodAll_nil hA
  obtain ⟨rfl, rfl⟩ := trodVars_none hV
  obtain rfl : args = #[v1, v2, v3] := by cases args; cases ha1; rfl
  rw [Try.params10] at hval
  obtain ⟨c1, rfl, _⟩ := okWide_struct Try.underlying27 (hval 0 27 v1 rfl rfl)
  obtain ⟨fu1, tr1⟩ := t1
  obtain ⟨xa1, xb1, xc1, VS1, ss1, VT1, ts1, r1, p1_0, p1_1⟩ := decState _ (ckinds_sound 9 _ _ fu1 _ _ kind1 tr1)
  obtain ⟨x2, rfl⟩ := okWide_int Try.underlying3 (hval 1 3 v2 rfl rfl)
  obtain ⟨y2, ey2, lo2, hi2⟩ := LK.i64 (trod_one kind2 t2 (fun xs h => by cases h))
  have r2 : VRel (idR W) (szOf W) (.int .i64 y2) (.int .i64 x2) := by rw [ey2]; exact flatV_rel rfl
  obtain ⟨x3, rfl⟩ := okWide_int Try.underlying3 (hval 2 3 v3 rfl rfl)
  obtain ⟨y3, ey3, lo3, hi3⟩ := LK.i64 (trod_one kind3 t3 (fun xs h => by cases h))
  have r3 : VRel (idR W) (szOf W) (.int .i64 y3) (.int .i64 x3) := by rw [ey3]; exact flatV_rel rfl
  refine (law_calls hB (findWays xa1 xb1 xc1 VS1 ss1 VT1 ts1 y2 y3 _ _ (heapView_dom W) p1_0 p1_1  ) (VRs.cons' r1 (VRs.cons' r2 (VRs.cons' r3 (VRs.nil _ _))))).mono fun e W' ⟨he, bel⟩ => ?_
  subst he
  exact ⟨_, rfl, _, _, _, _, _, [], hW', trodAll_mk1 (shut_bool Try.underlying4 _), trodAll_stays laid bel _ _ _ _ reads hAll (fun x hx => hW'.lt x (by simpa using hx)), rfl, bel.frame _, fun h => by cases h⟩
theorem over : Rows.findWaysRow.holds Try.pinned (OpenSpec.ofChange Rows.findWaysSpec) :=
  OpenClaim.holds_of_wide 10 Try.f10 rfl rfl rfl rfl rfl rfl rfl ⟨rfl, rfl, rfl, rfl, rfl⟩ rfl rfl rfl rfl rfl (by kernel_rfl) Try.func10 (by kernel_rfl)
    (of_decide_eq_true (by kernel_rfl)) (by unfold Func.isWrapper; first | (rw [if_pos (by decide +kernel)]; kernel_rfl) | (rw [if_neg (by decide +kernel)]; exact ⟨rfl, rfl⟩))
    (fun os started H enc _ => lifted os started H enc)
end Go.Proofs.Ytkcahnefekkfaaa.findWaysLaw
namespace Go.Proofs.Ytkcahnefekkfaaa
theorem findWays_holds : Rows.FindWaysSaid := findWaysLaw.over
#print axioms findWays_holds
end Go.Proofs.Ytkcahnefekkfaaa
