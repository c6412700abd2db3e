/- PathOne returns true: two ways that may be have the same word, and text, just if they are the same. The input is as it was. It holds for all arguments. -/
import Derived.Test.YtfcbhgiccgommaaDoorRows
import Derived.Test.YtfcbhgiccgommaaDoorTie
import Derived.Test.YtfcbhgiccgommaaDoorCards
import Derived.LaidMore
import Derived.OpenShut
import Derived.Stop.Joined
import Derived.SevenTiedAt
import Derived.Test.YtfcbhgiccgommaaDoorP9a
namespace Go.Proofs.YtfcbhgiccgommaaDoor.pathOneLaw
open Go Go.Proofs Go.Proofs.YtfcbhgiccgommaaDoorAbs Go.Proofs.YtfcbhgiccgommaaDoor.F9 Go.RowKit Go.ChangeShapes Go.WideShapes Go.ChangeAt
set_option linter.unusedVariables false
set_option linter.unusedSimpArgs false
theorem own : ownKnob Tryd.prog.godebug = none := by kernel_rfl
theorem laid : laidOutB Tryd.prog = true := by kernel_rfl
theorem reads : ∀ t ∈ Tryd.f3.params.toList, Tryd.prog.readableRec t = true ∧ t < Tryd.prog.types.size := by
  rw [Tryd.params3]; decide +kernel
theorem kind1 : ckinds Tryd.prog 9 22 = some [.slice 3] := by kernel_rfl
theorem kind1e : ckinds Tryd.prog 9 3 = some [.flat (.int .i64)] := by kernel_rfl
theorem cells1 : Tryd.prog.cellsOf 3 = 1 := by kernel_rfl
theorem kind2 : ckinds Tryd.prog 9 22 = some [.slice 3] := by kernel_rfl
theorem kind2e : ckinds Tryd.prog 9 3 = some [.flat (.int .i64)] := by kernel_rfl
theorem cells2 : Tryd.prog.cellsOf 3 = 1 := by kernel_rfl
/-- The door's own heap meets the condition. -/
theorem door_met (os : Os) (args : Array Value) : laidMetH Tryd.prog Rows.pathOneRow.laid ((World.doorLaid Tryd.prog 2000 os).forCall (fun _ _ => 0) ⟨#[], args, []⟩).memory :=
  laidMetH_of_parts3 (fuel := 8) (laidMet_of_run' 8 (by kernel_rfl) (by kernel_rfl)) (by kernel_rfl) (by kernel_rfl)
set_option maxRecDepth 100000 in
theorem lifted (os : Os) (started : os.Started) (H : Type) (enc : TypeId × Value → H) :
    ReturnsInHanded {} Tryd.checked os 3 .any (fun w args => (Rows.pathOneSpec.pre enc Tryd.prog Tryd.f3 [] false w args ∧ laidMetH Tryd.prog Rows.pathOneRow.laid w) ∧ sizedMet enc Tryd.prog Tryd.f3 (OpenSpec.ofChange Rows.pathOneSpec) false w args) (Rows.pathOneSpec.post enc Tryd.prog Tryd.f3 false true false false) := by
  refine returnsInHanded_of_change_and (C := Tryd.checked) (X := fun w _ => laidMetH Tryd.prog Rows.pathOneRow.laid w) (fun _ _ _ hh h => h.of_heap hh) own started (by kernel_rfl) Tryd.func3
    (ChangeSpec.witness_shaped (enc := enc) (C := Tryd.checked) (os := os) (X := fun w _ => laidMetH Tryd.prog Rows.pathOneRow.laid w) false (World.doorLaid Tryd.prog 2000 os) #[.slice none 0 0, .slice none 0 0] 8 rfl (World.shaped_of_RefB (by kernel_rfl) (by kernel_rfl)) (by kernel_rfl) (by kernel_rfl) (by kernel_rfl) (door_met os _)) ?_
  intro W base args ds gs before hval hW hcnd hsz _ _
  have hW' := hW
  obtain ⟨p, q, hA0, hV, rfl, hfz, hnd⟩ := hW
  have hA : DataW.TrodAll enc Tryd.prog W 0 (fun _ => true) true Tryd.f3.params.toList args.toList ds p := hA0
  have hAll := hA
  rw [Tryd.params3] at hA
  obtain ⟨v1, vs1, d1, ds1, p1, q1, ha1, rfl, rfl, t1, hA⟩ := trodAll_cons hA
  obtain ⟨v2, vs2, d2, ds2, p2, q2, rfl, rfl, rfl, t2, hA⟩ := trodAll_cons hA
  obtain ⟨rfl, rfl, rfl⟩ := trodAll_nil hA
  obtain ⟨rfl, rfl⟩ := trodVars_none hV
  obtain rfl : args = #[v1, v2] := by cases args; cases ha1; rfl
  rw [Tryd.params3] at hval
  obtain ⟨a1, l1, c1, rfl⟩ := okWide_slice Tryd.underlying22 (hval 0 22 v1 rfl rfl)
  obtain ⟨r1, xs1, e1, g1, b1⟩ := rd_of_slice (enc := fun x => [.int .i64 x]) (good := fun _ => True) (e := 1) kind1e (by simp) rfl cells1 (by decide) decI (trod_one kind1 t1 (fun xs h => by cases h))
  obtain ⟨a2, l2, c2, rfl⟩ := okWide_slice Tryd.underlying22 (hval 1 22 v2 rfl rfl)
  obtain ⟨r2, xs2, e2, g2, b2⟩ := rd_of_slice (enc := fun x => [.int .i64 x]) (good := fun _ => True) (e := 1) kind2e (by simp) rfl cells2 (by decide) decI (trod_one kind2 t2 (fun xs h => by cases h))
  refine (law_calls (PathOne _ xs1 _ xs2 _ _ (heapView_dom W) e1 e2) (VRs.cons' r1 (VRs.cons' r2 (VRs.nil _ _)))).mono fun e W' ⟨he, bel⟩ => ?_
  subst he
  exact ⟨_, rfl, _, _, _, _, _, [], hW', trodAll_mk1 (shut_bool Tryd.underlying4 _), trodAll_stays laid bel _ _ _ _ reads hAll (fun x hx => hW'.lt x (by simpa using hx)), rfl, bel.frame _, fun h => by cases h⟩
theorem over : Rows.pathOneRow.holds Tryd.pinned (OpenSpec.ofChange Rows.pathOneSpec) :=
  OpenClaim.holds_of_wide 3 Tryd.f3 rfl rfl rfl rfl rfl rfl rfl ⟨rfl, rfl, rfl, rfl, rfl⟩ rfl rfl rfl rfl rfl (by kernel_rfl) Tryd.func3 (by kernel_rfl)
    (of_decide_eq_true (by kernel_rfl)) (by unfold Func.isWrapper; first | (rw [if_pos (by decide +kernel)]; kernel_rfl) | (rw [if_neg (by decide +kernel)]; exact ⟨rfl, rfl⟩))
    (fun os started H enc _ => lifted os started H enc)
end Go.Proofs.YtfcbhgiccgommaaDoor.pathOneLaw
namespace Go.Proofs.YtfcbhgiccgommaaDoor
theorem pathOne_holds : Rows.PathOneCardSaid :=
  Claim7.holds_tied_plain_at .later [] [.data, .data, .data] true (true, "44557f85c06bc9e3bfa10e696a41113eff375a1ba67f2f63b92ffde260df14cd") true
    pathOneLaw.over (fun _ h => by cases h) (by kernel_rfl) (fun _ h => by cases h) pathOne_row_tie rfl ⟨rfl, rfl⟩ (by kernel_rfl) rfl
    (fun f fn hf hfn => by
      obtain rfl : f = 3 := Option.some.inj ((show Tryd.prog.funcNamed "reeve/reevelaw9.PathOne" = some 3 by kernel_rfl).symm.trans hf) |>.symm
      obtain rfl : fn = Tryd.f3 := (Option.some.inj (Tryd.func3.symm.trans hfn)).symm
      exact ⟨by kernel_rfl, fun j t ht => by
        rw [Tryd.params3] at ht
        have hm : t ∈ [22, 22] := by simpa using Array.mem_of_getElem? ht
        have hall : ([22, 22].all fun u => !Tryd.prog.wantsStandIn u) = true := by kernel_rfl
        exact (show Tryd.prog.wantsStandIn t = false by simpa using List.all_eq_true.1 hall t hm)⟩)
    (by kernel_rfl)
#print axioms pathOne_holds
end Go.Proofs.YtfcbhgiccgommaaDoor
