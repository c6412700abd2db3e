/- TagBack returns true for all fields and every word, and leaves its input as it was. -/
import Derived.Test.YthigpfognkmegaaRows
import Derived.Test.YthigpfognkmegaaTag
namespace Go.Proofs.Ythigpfognkmegaa.tagBackLaw
open Go Go.Proofs Go.Proofs.YthigpfognkmegaaAbs Go.Proofs.Ythigpfognkmegaa.F Go.RowKit Go.ChangeShapes Go.WideShapes Go.ChangeAt
set_option linter.unusedVariables false
theorem own : ownKnob Try.prog.godebug = none := by kernel_rfl
theorem laid : laidOutB Try.prog = true := by kernel_rfl
theorem reads : ∀ t ∈ Try.f3.params.toList, Try.prog.readableRec t = true ∧ t < Try.prog.types.size := by
  rw [Try.params3]; decide +kernel
theorem kind1 : ckinds Try.prog 9 22 = some [.slice 34] := by kernel_rfl
theorem kind1e : ckinds Try.prog 9 34 = some [.flat (.int .i64), .flat (.int .i64)] := by kernel_rfl
theorem cells34 : Try.prog.cellsOf 34 = 2 := by kernel_rfl
theorem kind2 : ckinds Try.prog 9 23 = some [.flat (.int .u64)] := by kernel_rfl
theorem dec1 {H : Type} {enc : TypeId × Value → H} {W : World} : ∀ c, Cells enc Try.prog W [.flat (.int .i64), .flat (.int .i64)] c → ∃ x : Int × Int, encF x = c ∧ fOk x := fun c h => by
  obtain ⟨a, b, rfl, ha, hb⟩ := h.flats2
  obtain ⟨x, rfl, h1, h2⟩ := LK.i64 ha
  obtain ⟨y, rfl, h3, h4⟩ := LK.i64 hb
  exact ⟨(x, y), rfl, h1, h2, h3, h4⟩
set_option maxRecDepth 100000 in
theorem lifted (os : Os) (started : os.Started) (H : Type) (enc : TypeId × Value → H) :
    ReturnsInHanded {} Try.checked os 3 .any (Rows.tagBackSpec.pre6 enc Try.prog Try.f3 Rows.tagBackRow.domain false) (Rows.tagBackSpec.post enc Try.prog Try.f3 false true false false) := by
  refine returnsInHanded_of_change_sized (C := Try.checked) own started (by kernel_rfl) Try.func3
    (ChangeSpec.witness6 (enc := enc) (C := Try.checked) false ⟨#[], #[.slice none 0 0, .int .u64 0], []⟩ 8 (by kernel_rfl) (by kernel_rfl) (by kernel_rfl) (by kernel_rfl)) ?_
  intro W base args ds gs before hval hW hcnd hsz _
  have hW' := hW
  obtain ⟨p, q, hA0, hV, rfl, hfz, hnd⟩ := hW
  have hA : DataW.TrodAll enc Try.prog W 0 (fun _ => true) true Try.f3.params.toList args.toList ds p := hA0
  have hAll := hA
  rw [Try.params3] at hA
  obtain ⟨v1, vs1, d1, ds1, p1, q1, ha1, rfl, rfl, t1, hA⟩ := trodAll_cons hA
  obtain ⟨v2, vs2, d2, ds2, p2, q2, rfl, rfl, rfl, t2, hA⟩ := trodAll_cons hA
  obtain ⟨rfl, rfl, rfl⟩ := trodAll_nil hA
  obtain ⟨rfl, rfl⟩ := trodVars_none hV
  obtain rfl : args = #[v1, v2] := by cases args; cases ha1; rfl
  rw [Try.params3] at hval
  obtain ⟨a1, l1, c1, rfl⟩ := okWide_slice Try.underlying22 (hval 0 22 v1 rfl rfl)
  obtain ⟨x2, rfl⟩ := okWide_int Try.underlying23 (hval 1 23 v2 rfl rfl)
  obtain ⟨r1, fs, e1, g1, b1⟩ := rd_of_slice (enc := encF) (good := fOk) (e := 2) kind1e (by simp) rfl cells34 (by decide) dec1 (trod_one kind1 t1 (fun xs h => by cases h))
  obtain ⟨w, ew⟩ := LK.u64 (trod_one kind2 t2 (fun xs h => by cases h))
  have r2 : VRel (idR W) (szOf W) (U w) (.int .u64 x2) := by rw [ew]; exact flatV_rel (U_flatV w)
  refine (law_calls (TagBack _ fs w _ _ g1 e1) (VRs.cons' r1 (VRs.cons' r2 (VRs.nil _ _)))).mono fun e W' ⟨he, bel⟩ => ?_
  subst he
  exact ⟨_, rfl, _, _, _, _, _, [], hW', trodAll_mk1 (shut_bool Try.underlying4 _), trodAll_stays laid bel _ _ _ _ reads hAll (fun x hx => hW'.lt x (by simpa using hx)), rfl, bel.frame _, fun h => by cases h⟩
theorem over : Rows.tagBackRow.holds Try.pinned (OpenSpec.ofChange Rows.tagBackSpec) :=
  OpenClaim.holds_of_wide 3 Try.f3 rfl rfl rfl rfl rfl rfl rfl ⟨rfl, rfl, rfl, rfl, rfl⟩ rfl rfl rfl rfl rfl (by kernel_rfl) Try.func3 (by kernel_rfl)
    (of_decide_eq_true (by kernel_rfl)) (by unfold Func.isWrapper; first | (rw [if_pos (by decide +kernel)]; kernel_rfl) | (rw [if_neg (by decide +kernel)]; exact ⟨rfl, rfl⟩))
    (fun os started H enc _ => lifted os started H enc)
end Go.Proofs.Ythigpfognkmegaa.tagBackLaw
namespace Go.Proofs.Ythigpfognkmegaa
theorem tagBack_holds : Rows.TagBackSaid := tagBackLaw.over
#print axioms tagBack_holds
end Go.Proofs.Ythigpfognkmegaa
