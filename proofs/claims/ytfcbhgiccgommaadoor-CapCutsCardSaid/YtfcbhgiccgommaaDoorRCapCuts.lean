/- CapCuts returns true: cut by two rights, one behind the other, it is cut by both together; cut by all it is as it was. The input is as it was. It holds for all arguments. -/
import Derived.Test.YtfcbhgiccgommaaDoorRows
import Derived.Test.YtfcbhgiccgommaaDoorTie
import Derived.Test.YtfcbhgiccgommaaDoorCards
import Derived.LaidMore
import Derived.OpenShut
import Derived.Stop.Joined
import Derived.SevenTiedAt
import Derived.Test.YtfcbhgiccgommaaDoorP8a
namespace Go.Proofs.YtfcbhgiccgommaaDoor.capCutsLaw
open Go Go.Proofs Go.Proofs.YtfcbhgiccgommaaDoorAbs Go.Proofs.YtfcbhgiccgommaaDoor.F8 Go.RowKit Go.ChangeShapes Go.WideShapes Go.ChangeAt
set_option linter.unusedVariables false
set_option linter.unusedSimpArgs false
theorem own : ownKnob Tryd.prog.godebug = none := by kernel_rfl
theorem laid : laidOutB Tryd.prog = true := by kernel_rfl
theorem reads : ∀ t ∈ Tryd.f5.params.toList, Tryd.prog.readableRec t = true ∧ t < Tryd.prog.types.size := by
  rw [Tryd.params5]; decide +kernel
theorem kind1 : ckinds Tryd.prog 9 34 = some [.flat (.int .i64), .flat (.int .i64), .flat (.int .i64), .flat (.int .i64)] := by kernel_rfl
theorem kind2 : ckinds Tryd.prog 9 3 = some [.flat (.int .i64)] := by kernel_rfl
theorem kind3 : ckinds Tryd.prog 9 3 = some [.flat (.int .i64)] := by kernel_rfl
/-- The door's own heap meets the condition. -/
theorem door_met (os : Os) (args : Array Value) : laidMetH Tryd.prog Rows.capCutsRow.laid ((World.doorLaid Tryd.prog 2000 os).forCall (fun _ _ => 0) ⟨#[], args, []⟩).memory :=
  laidMetH_of_parts3 (fuel := 8) (laidMet_of_run' 8 (by kernel_rfl) (by kernel_rfl)) (by kernel_rfl) (by kernel_rfl)
set_option maxRecDepth 100000 in
theorem lifted (os : Os) (started : os.Started) (H : Type) (enc : TypeId × Value → H) :
    ReturnsInHanded {} Tryd.checked os 5 .any (fun w args => (Rows.capCutsSpec.pre enc Tryd.prog Tryd.f5 [] false w args ∧ laidMetH Tryd.prog Rows.capCutsRow.laid w) ∧ sizedMet enc Tryd.prog Tryd.f5 (OpenSpec.ofChange Rows.capCutsSpec) false w args) (Rows.capCutsSpec.post enc Tryd.prog Tryd.f5 false true false false) := by
  refine returnsInHanded_of_change_and (C := Tryd.checked) (X := fun w _ => laidMetH Tryd.prog Rows.capCutsRow.laid w) (fun _ _ _ hh h => h.of_heap hh) own started (by kernel_rfl) Tryd.func5
    (ChangeSpec.witness_shaped (enc := enc) (C := Tryd.checked) (os := os) (X := fun w _ => laidMetH Tryd.prog Rows.capCutsRow.laid w) false (World.doorLaid Tryd.prog 2000 os) #[.agg #[.int .i64 0, .int .i64 0, .int .i64 0, .int .i64 0], .int .i64 0, .int .i64 0] 8 rfl (World.shaped_of_RefB (by kernel_rfl) (by kernel_rfl)) (by kernel_rfl) (by kernel_rfl) (by kernel_rfl) (door_met os _)) ?_
  intro W base args ds gs before hval hW hcnd hsz _ _
  have hW' := hW
  obtain ⟨p, q, hA0, hV, rfl, hfz, hnd⟩ := hW
  have hA : DataW.TrodAll enc Tryd.prog W 0 (fun _ => true) true Tryd.f5.params.toList args.toList ds p := hA0
  have hAll := hA
  rw [Tryd.params5] at hA
  obtain ⟨v1, vs1, d1, ds1, p1, q1, ha1, rfl, rfl, t1, hA⟩ := trodAll_cons hA
  obtain ⟨v2, vs2, d2, ds2, p2, q2, rfl, rfl, rfl, t2, hA⟩ := trodAll_cons hA
  obtain ⟨v3, vs3, d3, ds3, p3, q3, rfl, rfl, rfl, t3, hA⟩ := trodAll_cons hA
  obtain ⟨rfl, rfl, rfl⟩ := trodAll_nil hA
  obtain ⟨rfl, rfl⟩ := trodVars_none hV
  obtain rfl : args = #[v1, v2, v3] := by cases args; cases ha1; rfl
  rw [Tryd.params5] at hval
  obtain ⟨c1, rfl, _⟩ := okWide_struct Tryd.underlying34 (hval 0 34 v1 rfl rfl)
  obtain ⟨fu1, tr1⟩ := t1
  obtain ⟨a1, b1, d1, e1, r1⟩ := decCap _ (ckinds_sound 9 _ _ fu1 _ _ kind1 tr1)
  obtain ⟨x2, rfl⟩ := okWide_int Tryd.underlying3 (hval 1 3 v2 rfl rfl)
  obtain ⟨y2, ey2, lo2, hi2⟩ := LK.i64 (trod_one kind2 t2 (fun xs h => by cases h))
  have r2 : VRel (idR W) (szOf W) (.int .i64 y2) (.int .i64 x2) := by rw [ey2]; exact flatV_rel rfl
  obtain ⟨x3, rfl⟩ := okWide_int Tryd.underlying3 (hval 2 3 v3 rfl rfl)
  obtain ⟨y3, ey3, lo3, hi3⟩ := LK.i64 (trod_one kind3 t3 (fun xs h => by cases h))
  have r3 : VRel (idR W) (szOf W) (.int .i64 y3) (.int .i64 x3) := by rw [ey3]; exact flatV_rel rfl
  refine (law_calls (CapCuts a1 b1 d1 e1 y2 y3 _ _ (heapView_dom W)  lo2 hi2 lo3 hi3) (VRs.cons' r1 (VRs.cons' r2 (VRs.cons' r3 (VRs.nil _ _))))).mono fun e W' ⟨he, bel⟩ => ?_
  subst he
  exact ⟨_, rfl, _, _, _, _, _, [], hW', trodAll_mk1 (shut_bool Tryd.underlying4 _), trodAll_stays laid bel _ _ _ _ reads hAll (fun x hx => hW'.lt x (by simpa using hx)), rfl, bel.frame _, fun h => by cases h⟩
theorem over : Rows.capCutsRow.holds Tryd.pinned (OpenSpec.ofChange Rows.capCutsSpec) :=
  OpenClaim.holds_of_wide 5 Tryd.f5 rfl rfl rfl rfl rfl rfl rfl ⟨rfl, rfl, rfl, rfl, rfl⟩ rfl rfl rfl rfl rfl (by kernel_rfl) Tryd.func5 (by kernel_rfl)
    (of_decide_eq_true (by kernel_rfl)) (by unfold Func.isWrapper; first | (rw [if_pos (by decide +kernel)]; kernel_rfl) | (rw [if_neg (by decide +kernel)]; exact ⟨rfl, rfl⟩))
    (fun os started H enc _ => lifted os started H enc)
end Go.Proofs.YtfcbhgiccgommaaDoor.capCutsLaw
namespace Go.Proofs.YtfcbhgiccgommaaDoor
theorem capCuts_holds : Rows.CapCutsCardSaid :=
  Claim7.holds_tied_plain_at .later [] [.data, .data, .data] true (true, "44557f85c06bc9e3bfa10e696a41113eff375a1ba67f2f63b92ffde260df14cd") true
    capCutsLaw.over (fun _ h => by cases h) (by kernel_rfl) (fun _ h => by cases h) capCuts_row_tie rfl ⟨rfl, rfl⟩ (by kernel_rfl) rfl
    (fun f fn hf hfn => by
      obtain rfl : f = 5 := Option.some.inj ((show Tryd.prog.funcNamed "reeve/reevelaw8.CapCuts" = some 5 by kernel_rfl).symm.trans hf) |>.symm
      obtain rfl : fn = Tryd.f5 := (Option.some.inj (Tryd.func5.symm.trans hfn)).symm
      exact ⟨by kernel_rfl, fun j t ht => by
        rw [Tryd.params5] at ht
        have hm : t ∈ [34, 3, 3] := by simpa using Array.mem_of_getElem? ht
        have hall : ([34, 3, 3].all fun u => !Tryd.prog.wantsStandIn u) = true := by kernel_rfl
        exact (show Tryd.prog.wantsStandIn t = false by simpa using List.all_eq_true.1 hall t hm)⟩)
    (by kernel_rfl)
#print axioms capCuts_holds
end Go.Proofs.YtfcbhgiccgommaaDoor
