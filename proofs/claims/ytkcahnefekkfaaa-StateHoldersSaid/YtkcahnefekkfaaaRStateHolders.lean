/- StateHolders returns true: each capability's thing is held by its slot; of each thing all holders are told, once. The input is as it was. It holds for all arguments. -/
import Derived.Test.YtkcahnefekkfaaaRows
import Derived.Test.YtkcahnefekkfaaaP12Hb
namespace Go.Proofs.Ytkcahnefekkfaaa.stateHoldersLaw
open Go Go.Proofs Go.Proofs.YtkcahnefekkfaaaAbs Go.Proofs.Ytkcahnefekkfaaa.F12H Go.RowKit Go.ChangeShapes Go.WideShapes Go.ChangeAt
set_option linter.unusedVariables false
set_option linter.unusedSimpArgs false
theorem own : ownKnob Try.prog.godebug = none := by kernel_rfl
theorem laid : laidOutB Try.prog = true := by kernel_rfl
theorem reads : ∀ t ∈ Try.f3.params.toList, Try.prog.readableRec t = true ∧ t < Try.prog.types.size := by
  rw [Try.params3]; decide +kernel
theorem kind1 : ckinds Try.prog 9 27 = some [.flat (.int .i64), .flat (.int .i64), .flat (.int .i64), .slice 34, .slice 71] := by kernel_rfl
set_option maxRecDepth 100000 in
theorem lifted (os : Os) (started : os.Started) (H : Type) (enc : TypeId × Value → H) :
    ReturnsInHanded {} Try.checked os 3 .any (Rows.stateHoldersSpec.pre6 enc Try.prog Try.f3 Rows.stateHoldersRow.domain false) (Rows.stateHoldersSpec.post enc Try.prog Try.f3 false true false false) := by
  refine returnsInHanded_of_change_sized (C := Try.checked) own started (by kernel_rfl) Try.func3
    (ChangeSpec.witness6 (enc := enc) (C := Try.checked) false ⟨#[], #[.agg #[.int .i64 0, .int .i64 0, .int .i64 0, .slice none 0 0, .slice none 0 0]], []⟩ 8 (by kernel_rfl) (by kernel_rfl) (by kernel_rfl) (by kernel_rfl)) ?_
  intro W base args ds gs before hval hW hcnd hsz _
  letI : Base := ⟨0, W⟩
  have hB : BaseW W := ⟨fun b hb => absurd hb (Nat.not_lt_zero _), Nat.zero_le _⟩
  have hW' := hW
  obtain ⟨p, q, hA0, hV, rfl, hfz, hnd⟩ := hW
  have hA : DataW.TrodAll enc Try.prog W 0 (fun _ => true) true Try.f3.params.toList args.toList ds p := hA0
  have hAll := hA
  rw [Try.params3] at hA
  obtain ⟨v1, vs1, d1, ds1, p1, q1, ha1, rfl, rfl, t1, hA⟩ := trodAll_cons hA
  obtain ⟨rfl, rfl, rfl⟩ := trodAll_nil hA
  obtain ⟨rfl, rfl⟩ := trodVars_none hV
  obtain rfl : args = #[v1] := by cases args; cases ha1; rfl
  rw [Try.params3] at hval
  obtain ⟨c1, rfl, _⟩ := okWide_struct Try.underlying27 (hval 0 27 v1 rfl rfl)
  obtain ⟨fu1, tr1⟩ := t1
  obtain ⟨xa1, xb1, xc1, VS1, ss1, VT1, ts1, r1, p1_0, p1_1⟩ := decState _ (ckinds_sound 9 _ _ fu1 _ _ kind1 tr1)
  refine (law_calls hB (stateHolders xa1 xb1 xc1 VS1 ss1 VT1 ts1 _ _ (heapView_dom W) p1_0 p1_1) (VRs.cons' r1 (VRs.nil _ _))).mono fun e W' ⟨he, bel⟩ => ?_
  subst he
  exact ⟨_, rfl, _, _, _, _, _, [], hW', trodAll_mk1 (shut_bool Try.underlying4 _), trodAll_stays laid bel _ _ _ _ reads hAll (fun x hx => hW'.lt x (by simpa using hx)), rfl, bel.frame _, fun h => by cases h⟩
theorem over : Rows.stateHoldersRow.holds Try.pinned (OpenSpec.ofChange Rows.stateHoldersSpec) :=
  OpenClaim.holds_of_wide 3 Try.f3 rfl rfl rfl rfl rfl rfl rfl ⟨rfl, rfl, rfl, rfl, rfl⟩ rfl rfl rfl rfl rfl (by kernel_rfl) Try.func3 (by kernel_rfl)
    (of_decide_eq_true (by kernel_rfl)) (by unfold Func.isWrapper; first | (rw [if_pos (by decide +kernel)]; kernel_rfl) | (rw [if_neg (by decide +kernel)]; exact ⟨rfl, rfl⟩))
    (fun os started H enc _ => lifted os started H enc)
end Go.Proofs.Ytkcahnefekkfaaa.stateHoldersLaw
namespace Go.Proofs.Ytkcahnefekkfaaa
theorem stateHolders_holds : Rows.StateHoldersSaid := stateHoldersLaw.over
#print axioms stateHolders_holds
end Go.Proofs.Ytkcahnefekkfaaa
