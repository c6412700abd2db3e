/- CapLess returns true: what is cut, or stamped, allows less; less goes on. The input is as it was. It holds for all arguments. -/
import Derived.Test.YtfcbhgiccgommaaDoorRows
import Derived.Test.YtfcbhgiccgommaaDoorTie
import Derived.Test.YtfcbhgiccgommaaDoorCards
import Derived.LaidMore
import Derived.OpenShut
import Derived.Stop.Joined
import Derived.SevenTiedAt
import Derived.Test.YtfcbhgiccgommaaDoorP8a
namespace Go.Proofs.YtfcbhgiccgommaaDoor.capLessLaw
open Go Go.Proofs Go.Proofs.YtfcbhgiccgommaaDoorAbs Go.Proofs.YtfcbhgiccgommaaDoor.F8 Go.RowKit Go.ChangeShapes Go.WideShapes Go.ChangeAt
set_option linter.unusedVariables false
set_option linter.unusedSimpArgs false
theorem own : ownKnob Tryd.prog.godebug = none := by kernel_rfl
theorem laid : laidOutB Tryd.prog = true := by kernel_rfl
theorem reads : ∀ t ∈ Tryd.f8.params.toList, Tryd.prog.readableRec t = true ∧ t < Tryd.prog.types.size := by
  rw [Tryd.params8]; decide +kernel
theorem kind1 : ckinds Tryd.prog 9 34 = some [.flat (.int .i64), .flat (.int .i64), .flat (.int .i64), .flat (.int .i64)] := by kernel_rfl
theorem kind2 : ckinds Tryd.prog 9 34 = some [.flat (.int .i64), .flat (.int .i64), .flat (.int .i64), .flat (.int .i64)] := by kernel_rfl
theorem kind3 : ckinds Tryd.prog 9 34 = some [.flat (.int .i64), .flat (.int .i64), .flat (.int .i64), .flat (.int .i64)] := by kernel_rfl
theorem kind4 : ckinds Tryd.prog 9 3 = some [.flat (.int .i64)] := by kernel_rfl
theorem kind5 : ckinds Tryd.prog 9 3 = some [.flat (.int .i64)] := by kernel_rfl
/-- The door's own heap meets the condition. -/
theorem door_met (os : Os) (args : Array Value) : laidMetH Tryd.prog Rows.capLessRow.laid ((World.doorLaid Tryd.prog 2000 os).forCall (fun _ _ => 0) ⟨#[], args, []⟩).memory :=
  laidMetH_of_parts3 (fuel := 8) (laidMet_of_run' 8 (by kernel_rfl) (by kernel_rfl)) (by kernel_rfl) (by kernel_rfl)
set_option maxRecDepth 100000 in
theorem lifted (os : Os) (started : os.Started) (H : Type) (enc : TypeId × Value → H) :
    ReturnsInHanded {} Tryd.checked os 8 .any (fun w args => (Rows.capLessSpec.pre enc Tryd.prog Tryd.f8 [] false w args ∧ laidMetH Tryd.prog Rows.capLessRow.laid w) ∧ sizedMet enc Tryd.prog Tryd.f8 (OpenSpec.ofChange Rows.capLessSpec) false w args) (Rows.capLessSpec.post enc Tryd.prog Tryd.f8 false true false false) := by
  refine returnsInHanded_of_change_and (C := Tryd.checked) (X := fun w _ => laidMetH Tryd.prog Rows.capLessRow.laid w) (fun _ _ _ hh h => h.of_heap hh) own started (by kernel_rfl) Tryd.func8
    (ChangeSpec.witness_shaped (enc := enc) (C := Tryd.checked) (os := os) (X := fun w _ => laidMetH Tryd.prog Rows.capLessRow.laid w) false (World.doorLaid Tryd.prog 2000 os) #[.agg #[.int .i64 0, .int .i64 0, .int .i64 0, .int .i64 0], .agg #[.int .i64 0, .int .i64 0, .int .i64 0, .int .i64 0], .agg #[.int .i64 0, .int .i64 0, .int .i64 0, .int .i64 0], .int .i64 0, .int .i64 0] 8 rfl (World.shaped_of_RefB (by kernel_rfl) (by kernel_rfl)) (by kernel_rfl) (by kernel_rfl) (by kernel_rfl) (door_met os _)) ?_
  intro W base args ds gs before hval hW hcnd hsz _ _
  have hW' := hW
  obtain ⟨p, q, hA0, hV, rfl, hfz, hnd⟩ := hW
  have hA : DataW.TrodAll enc Tryd.prog W 0 (fun _ => true) true Tryd.f8.params.toList args.toList ds p := hA0
  have hAll := hA
  rw [Tryd.params8] at hA
  obtain ⟨v1, vs1, d1, ds1, p1, q1, ha1, rfl, rfl, t1, hA⟩ := trodAll_cons hA
  obtain ⟨v2, vs2, d2, ds2, p2, q2, rfl, rfl, rfl, t2, hA⟩ := trodAll_cons hA
  obtain ⟨v3, vs3, d3, ds3, p3, q3, rfl, rfl, rfl, t3, hA⟩ := trodAll_cons hA
  obtain ⟨v4, vs4, d4, ds4, p4, q4, rfl, rfl, rfl, t4, hA⟩ := trodAll_cons hA
  obtain ⟨v5, vs5, d5, ds5, p5, q5, rfl, rfl, rfl, t5, hA⟩ := trodAll_cons hA
  obtain ⟨rfl, rfl, rfl⟩ := trodAll_nil hA
  obtain ⟨rfl, rfl⟩ := trodVars_none hV
  obtain rfl : args = #[v1, v2, v3, v4, v5] := by cases args; cases ha1; rfl
  rw [Tryd.params8] at hval
  obtain ⟨c1, rfl, _⟩ := okWide_struct Tryd.underlying34 (hval 0 34 v1 rfl rfl)
  obtain ⟨fu1, tr1⟩ := t1
  obtain ⟨a1, b1, d1, e1, r1⟩ := decCap _ (ckinds_sound 9 _ _ fu1 _ _ kind1 tr1)
  obtain ⟨c2, rfl, _⟩ := okWide_struct Tryd.underlying34 (hval 1 34 v2 rfl rfl)
  obtain ⟨fu2, tr2⟩ := t2
  obtain ⟨a2, b2, d2, e2, r2⟩ := decCap _ (ckinds_sound 9 _ _ fu2 _ _ kind2 tr2)
  obtain ⟨c3, rfl, _⟩ := okWide_struct Tryd.underlying34 (hval 2 34 v3 rfl rfl)
  obtain ⟨fu3, tr3⟩ := t3
  obtain ⟨a3, b3, d3, e3, r3⟩ := decCap _ (ckinds_sound 9 _ _ fu3 _ _ kind3 tr3)
  obtain ⟨x4, rfl⟩ := okWide_int Tryd.underlying3 (hval 3 3 v4 rfl rfl)
  obtain ⟨y4, ey4, lo4, hi4⟩ := LK.i64 (trod_one kind4 t4 (fun xs h => by cases h))
  have r4 : VRel (idR W) (szOf W) (.int .i64 y4) (.int .i64 x4) := by rw [ey4]; exact flatV_rel rfl
  obtain ⟨x5, rfl⟩ := okWide_int Tryd.underlying3 (hval 4 3 v5 rfl rfl)
  obtain ⟨y5, ey5, lo5, hi5⟩ := LK.i64 (trod_one kind5 t5 (fun xs h => by cases h))
  have r5 : VRel (idR W) (szOf W) (.int .i64 y5) (.int .i64 x5) := by rw [ey5]; exact flatV_rel rfl
  refine (law_calls (CapLess a1 b1 d1 e1 a2 b2 d2 e2 a3 b3 d3 e3 y4 y5 _ _ (heapView_dom W)    lo4 hi4 lo5 hi5) (VRs.cons' r1 (VRs.cons' r2 (VRs.cons' r3 (VRs.cons' r4 (VRs.cons' r5 (VRs.nil _ _))))))).mono fun e W' ⟨he, bel⟩ => ?_
  subst he
  exact ⟨_, rfl, _, _, _, _, _, [], hW', trodAll_mk1 (shut_bool Tryd.underlying4 _), trodAll_stays laid bel _ _ _ _ reads hAll (fun x hx => hW'.lt x (by simpa using hx)), rfl, bel.frame _, fun h => by cases h⟩
theorem over : Rows.capLessRow.holds Tryd.pinned (OpenSpec.ofChange Rows.capLessSpec) :=
  OpenClaim.holds_of_wide 8 Tryd.f8 rfl rfl rfl rfl rfl rfl rfl ⟨rfl, rfl, rfl, rfl, rfl⟩ rfl rfl rfl rfl rfl (by kernel_rfl) Tryd.func8 (by kernel_rfl)
    (of_decide_eq_true (by kernel_rfl)) (by unfold Func.isWrapper; first | (rw [if_pos (by decide +kernel)]; kernel_rfl) | (rw [if_neg (by decide +kernel)]; exact ⟨rfl, rfl⟩))
    (fun os started H enc _ => lifted os started H enc)
end Go.Proofs.YtfcbhgiccgommaaDoor.capLessLaw
namespace Go.Proofs.YtfcbhgiccgommaaDoor
theorem capLess_holds : Rows.CapLessCardSaid :=
  Claim7.holds_tied_plain_at .later [] [.data, .data, .data] true (true, "44557f85c06bc9e3bfa10e696a41113eff375a1ba67f2f63b92ffde260df14cd") true
    capLessLaw.over (fun _ h => by cases h) (by kernel_rfl) (fun _ h => by cases h) capLess_row_tie rfl ⟨rfl, rfl⟩ (by kernel_rfl) rfl
    (fun f fn hf hfn => by
      obtain rfl : f = 8 := Option.some.inj ((show Tryd.prog.funcNamed "reeve/reevelaw8.CapLess" = some 8 by kernel_rfl).symm.trans hf) |>.symm
      obtain rfl : fn = Tryd.f8 := (Option.some.inj (Tryd.func8.symm.trans hfn)).symm
      exact ⟨by kernel_rfl, fun j t ht => by
        rw [Tryd.params8] at ht
        have hm : t ∈ [34, 34, 34, 3, 3] := by simpa using Array.mem_of_getElem? ht
        have hall : ([34, 34, 34, 3, 3].all fun u => !Tryd.prog.wantsStandIn u) = true := by kernel_rfl
        exact (show Tryd.prog.wantsStandIn t = false by simpa using List.all_eq_true.1 hall t hm)⟩)
    (by kernel_rfl)
#print axioms capLess_holds
end Go.Proofs.YtfcbhgiccgommaaDoor
