/- Contracts of functions: what each one returns, and what it leaves. No statement is proved here. -/
import Derived.Test.YtfcbhgiccgommaaDoorF9K
import Derived.Shelf.Strings.OnBuilder
import Derived.Shelf.Strconv.Itoa3
import Derived.Shelf.Strconv.AtoiAll
import Derived.LaidMore
import Derived.Stop.Joined
set_option linter.unusedVariables false
set_option linter.unusedSimpArgs false
set_option linter.unusedSectionVars false
namespace Go.Proofs.YtfcbhgiccgommaaDoor.F9K
open Go Go.Proofs Go.Proofs.YtfcbhgiccgommaaDoorAbs
variable [Base]
set_option maxRecDepth 100000
abbrev rdW (g : AMem) (v : Value) (ws : List (BitVec 64)) : Prop := Rd g 1 (fun w => [U w]) v ws
abbrev rdI (g : AMem) (v : Value) (xs : List Int) : Prop := Rd g 1 (fun x => [.int .i64 x]) v xs
end Go.Proofs.YtfcbhgiccgommaaDoor.F9K

namespace Go.Proofs.YtfcbhgiccgommaaDoor.F9K
open Go Go.Proofs
set_option maxRecDepth 100000
def lays171_ren : Go.Shelf.Ren :=
{
  f := fun x => match x with
    | 171 => 44
    | 243 => 65
    | 246 => 79
    | 283 => 90
    | 284 => 91
    | 285 => 92
    | 286 => 93
    | 129 => 104
    | 317 => 103
    | 318 => 105
    | 319 => 106
    | 320 => 107
    | 337 => 115
    | 338 => 116
    | n => n,
  t := fun x => match x with
    | 3 => 3
    | 9 => 9
    | 2 => 2
    | 4 => 4
    | 171 => 116
    | 0 => 0
    | 53 => 27
    | 37 => 93
    | 5 => 5
    | 173 => 119
    | 212 => 135
    | 51 => 136
    | 20 => 20
    | 213 => 137
    | 46 => 85
    | 232 => 151
    | 233 => 152
    | n => n,
  g := fun x => match x with
    | 17 => 2
    | 18 => 6
    | 19 => 7
    | n => n }
theorem lays171 : Lays.n171 Tryd.prog lays171_ren :=
  { mixed := rfl, f129 := Tryd.func104.trans (congrArg some (by kernel_rfl)), f171 := Tryd.func44.trans (congrArg some (by kernel_rfl)), f243 := Tryd.func65.trans (congrArg some (by kernel_rfl)), f246 := Tryd.func79.trans (congrArg some (by kernel_rfl)), f283 := Tryd.func90.trans (congrArg some (by kernel_rfl)), f284 := Tryd.func91.trans (congrArg some (by kernel_rfl)), f285 := Tryd.func92.trans (congrArg some (by kernel_rfl)), f286 := Tryd.func93.trans (congrArg some (by kernel_rfl)), f317 := Tryd.func103.trans (congrArg some (by kernel_rfl)), f318 := Tryd.func105.trans (congrArg some (by kernel_rfl)), f319 := Tryd.func106.trans (congrArg some (by kernel_rfl)), f320 := Tryd.func107.trans (congrArg some (by kernel_rfl)), f337 := Tryd.func115.trans (congrArg some (by kernel_rfl)), f338 := Tryd.func116.trans (congrArg some (by kernel_rfl)), t0 := Tryd.underlying0, a0 := Tryd.isAgg0, z0 := Tryd.sizeOf0, v0 := Tryd.zeroValue0, t2 := Tryd.underlying2, a2 := Tryd.isAgg2, z2 := Tryd.sizeOf2, v2 := Tryd.zeroValue2, t3 := Tryd.underlying3, a3 := Tryd.isAgg3, z3 := Tryd.sizeOf3, v3 := Tryd.zeroValue3, t4 := Tryd.underlying4, a4 := Tryd.isAgg4, z4 := Tryd.sizeOf4, v4 := Tryd.zeroValue4, t5 := Tryd.underlying5, a5 := Tryd.isAgg5, z5 := Tryd.sizeOf5, v5 := Tryd.zeroValue5, t9 := Tryd.underlying9, a9 := Tryd.isAgg9, z9 := Tryd.sizeOf9, v9 := Tryd.zeroValue9, t20 := Tryd.underlying20, a20 := Tryd.isAgg20, z20 := Tryd.sizeOf20, v20 := Tryd.zeroValue20, t37 := Tryd.underlying93, a37 := Tryd.isAgg93, z37 := Tryd.sizeOf93, v37 := Tryd.zeroValue93, t46 := Tryd.underlying85, a46 := Tryd.isAgg85, z46 := Tryd.sizeOf85, v46 := Tryd.zeroValue85, t51 := Tryd.underlying136, a51 := Tryd.isAgg136, z51 := Tryd.sizeOf136, v51 := Tryd.zeroValue136, t53 := Tryd.underlying27, a53 := Tryd.isAgg27, z53 := Tryd.sizeOf27, v53 := Tryd.zeroValue27, t171 := Tryd.underlying116, a171 := Tryd.isAgg116, z171 := Tryd.sizeOf116, v171 := Tryd.zeroValue116, t173 := Tryd.underlying119, a173 := Tryd.isAgg119, z173 := Tryd.sizeOf119, v173 := Tryd.zeroValue119, t212 := Tryd.underlying135, a212 := Tryd.isAgg135, z212 := Tryd.sizeOf135, v212 := Tryd.zeroValue135, t213 := Tryd.underlying137, a213 := Tryd.isAgg137, z213 := Tryd.sizeOf137, t232 := Tryd.underlying151, a232 := Tryd.isAgg151, z232 := Tryd.sizeOf151, v232 := Tryd.zeroValue151, t233 := Tryd.underlying152, a233 := Tryd.isAgg152, z233 := Tryd.sizeOf152, v233 := Tryd.zeroValue152, g17 := by kernel_rfl, g18 := by kernel_rfl, g19 := by kernel_rfl }
def lays156_ren : Go.Shelf.Ren :=
{
  f := fun x => match x with
    | 156 => 45
    | 165 => 66
    | 166 => 67
    | 169 => 68
    | 240 => 80
    | 241 => 81
    | 276 => 94
    | 277 => 95
    | n => n,
  t := fun x => match x with
    | 31 => 65
    | 9 => 9
    | 3 => 3
    | 4 => 4
    | 0 => 0
    | 20 => 20
    | 72 => 95
    | 76 => 89
    | 70 => 92
    | 37 => 93
    | 75 => 88
    | 127 => 107
    | 164 => 121
    | 5 => 5
    | 80 => 97
    | n => n,
  g := fun n => n }
theorem lays156 : Lays.n156 Tryd.prog lays156_ren :=
  { mixed := rfl, f156 := Tryd.func45.trans (congrArg some (by kernel_rfl)), f165 := Tryd.func66.trans (congrArg some (by kernel_rfl)), f166 := Tryd.func67.trans (congrArg some (by kernel_rfl)), f169 := Tryd.func68.trans (congrArg some (by kernel_rfl)), f240 := Tryd.func80.trans (congrArg some (by kernel_rfl)), f241 := Tryd.func81.trans (congrArg some (by kernel_rfl)), f276 := Tryd.func94.trans (congrArg some (by kernel_rfl)), f277 := Tryd.func95.trans (congrArg some (by kernel_rfl)), t0 := Tryd.underlying0, a0 := Tryd.isAgg0, z0 := Tryd.sizeOf0, v0 := Tryd.zeroValue0, t3 := Tryd.underlying3, a3 := Tryd.isAgg3, z3 := Tryd.sizeOf3, v3 := Tryd.zeroValue3, t4 := Tryd.underlying4, a4 := Tryd.isAgg4, z4 := Tryd.sizeOf4, v4 := Tryd.zeroValue4, t9 := Tryd.underlying9, a9 := Tryd.isAgg9, z9 := Tryd.sizeOf9, v9 := Tryd.zeroValue9, t20 := Tryd.underlying20, a20 := Tryd.isAgg20, z20 := Tryd.sizeOf20, v20 := Tryd.zeroValue20, t31 := Tryd.underlying65, a31 := Tryd.isAgg65, z31 := Tryd.sizeOf65, v31 := Tryd.zeroValue65, t37 := Tryd.underlying93, a37 := Tryd.isAgg93, z37 := Tryd.sizeOf93, v37 := Tryd.zeroValue93, t70 := Tryd.underlying92, a70 := Tryd.isAgg92, z70 := Tryd.sizeOf92, v70 := Tryd.zeroValue92, t72 := Tryd.underlying95, a72 := Tryd.isAgg95, z72 := Tryd.sizeOf95, v72 := Tryd.zeroValue95, t75 := Tryd.underlying88, a75 := Tryd.isAgg88, z75 := Tryd.sizeOf88, v75 := Tryd.zeroValue88, t76 := Tryd.underlying89, a76 := Tryd.isAgg89, z76 := Tryd.sizeOf89, v76 := Tryd.zeroValue89, t127 := Tryd.underlying107, a127 := Tryd.isAgg107, z127 := Tryd.sizeOf107, v127 := Tryd.zeroValue107, t164 := Tryd.underlying121, a164 := Tryd.isAgg121, z164 := Tryd.sizeOf121, v164 := Tryd.zeroValue121 }
def laysC172_ren : Go.Shelf.Ren :=
{
  f := fun x => match x with
    | 172 => 63
    | 244 => 77
    | 245 => 78
    | 247 => 85
    | 279 => 86
    | 280 => 87
    | 281 => 88
    | 282 => 89
    | 287 => 100
    | 316 => 101
    | 171 => 44
    | 205 => 102
    | 321 => 113
    | 322 => 114
    | 243 => 65
    | 246 => 79
    | 283 => 90
    | 284 => 91
    | 285 => 92
    | 286 => 93
    | 129 => 104
    | 317 => 103
    | 318 => 105
    | 319 => 106
    | 320 => 107
    | 337 => 115
    | 338 => 116
    | n => n,
  t := fun x => match x with
    | 9 => 9
    | 3 => 3
    | 75 => 88
    | 76 => 89
    | 4 => 4
    | 5 => 5
    | 167 => 110
    | 37 => 93
    | 0 => 0
    | 85 => 111
    | 2 => 2
    | 168 => 113
    | 53 => 27
    | 175 => 128
    | 46 => 85
    | 210 => 132
    | 127 => 107
    | 145 => 143
    | 143 => 141
    | 21 => 21
    | 171 => 116
    | 173 => 119
    | 212 => 135
    | 51 => 136
    | 20 => 20
    | 213 => 137
    | 232 => 151
    | 233 => 152
    | 80 => 97
    | n => n,
  g := fun x => match x with
    | 15 => 0
    | 16 => 1
    | 17 => 2
    | 18 => 6
    | 19 => 7
    | n => n }
theorem laysC172 : LaysC.n172 Tryd.prog laysC172_ren :=
  { mixed := rfl, f129 := Tryd.func104.trans (congrArg some (by kernel_rfl)), f171 := Tryd.func44.trans (congrArg some (by kernel_rfl)), f172 := Tryd.func63.trans (congrArg some (by kernel_rfl)), f205 := Tryd.func102.trans (congrArg some (by kernel_rfl)), f243 := Tryd.func65.trans (congrArg some (by kernel_rfl)), f244 := Tryd.func77.trans (congrArg some (by kernel_rfl)), f245 := Tryd.func78.trans (congrArg some (by kernel_rfl)), f246 := Tryd.func79.trans (congrArg some (by kernel_rfl)), f247 := Tryd.func85.trans (congrArg some (by kernel_rfl)), f279 := Tryd.func86.trans (congrArg some (by kernel_rfl)), f280 := Tryd.func87.trans (congrArg some (by kernel_rfl)), f281 := Tryd.func88.trans (congrArg some (by kernel_rfl)), f282 := Tryd.func89.trans (congrArg some (by kernel_rfl)), f283 := Tryd.func90.trans (congrArg some (by kernel_rfl)), f284 := Tryd.func91.trans (congrArg some (by kernel_rfl)), f285 := Tryd.func92.trans (congrArg some (by kernel_rfl)), f286 := Tryd.func93.trans (congrArg some (by kernel_rfl)), f287 := Tryd.func100.trans (congrArg some (by kernel_rfl)), f316 := Tryd.func101.trans (congrArg some (by kernel_rfl)), f317 := Tryd.func103.trans (congrArg some (by kernel_rfl)), f318 := Tryd.func105.trans (congrArg some (by kernel_rfl)), f319 := Tryd.func106.trans (congrArg some (by kernel_rfl)), f320 := Tryd.func107.trans (congrArg some (by kernel_rfl)), f321 := Tryd.func113.trans (congrArg some (by kernel_rfl)), f322 := Tryd.func114.trans (congrArg some (by kernel_rfl)), f337 := Tryd.func115.trans (congrArg some (by kernel_rfl)), f338 := Tryd.func116.trans (congrArg some (by kernel_rfl)), t0 := Tryd.underlying0, a0 := Tryd.isAgg0, z0 := Tryd.sizeOf0, v0 := Tryd.zeroValue0, t2 := Tryd.underlying2, a2 := Tryd.isAgg2, z2 := Tryd.sizeOf2, v2 := Tryd.zeroValue2, t3 := Tryd.underlying3, a3 := Tryd.isAgg3, z3 := Tryd.sizeOf3, v3 := Tryd.zeroValue3, t4 := Tryd.underlying4, a4 := Tryd.isAgg4, z4 := Tryd.sizeOf4, v4 := Tryd.zeroValue4, t5 := Tryd.underlying5, a5 := Tryd.isAgg5, z5 := Tryd.sizeOf5, v5 := Tryd.zeroValue5, t9 := Tryd.underlying9, a9 := Tryd.isAgg9, z9 := Tryd.sizeOf9, v9 := Tryd.zeroValue9, t20 := Tryd.underlying20, a20 := Tryd.isAgg20, z20 := Tryd.sizeOf20, v20 := Tryd.zeroValue20, t21 := Tryd.underlying21, a21 := Tryd.isAgg21, z21 := Tryd.sizeOf21, v21 := Tryd.zeroValue21, t37 := Tryd.underlying93, a37 := Tryd.isAgg93, z37 := Tryd.sizeOf93, v37 := Tryd.zeroValue93, t46 := Tryd.underlying85, a46 := Tryd.isAgg85, z46 := Tryd.sizeOf85, v46 := Tryd.zeroValue85, t51 := Tryd.underlying136, a51 := Tryd.isAgg136, z51 := Tryd.sizeOf136, v51 := Tryd.zeroValue136, t53 := Tryd.underlying27, a53 := Tryd.isAgg27, z53 := Tryd.sizeOf27, v53 := Tryd.zeroValue27, t75 := Tryd.underlying88, a75 := Tryd.isAgg88, z75 := Tryd.sizeOf88, v75 := Tryd.zeroValue88, t76 := Tryd.underlying89, a76 := Tryd.isAgg89, z76 := Tryd.sizeOf89, v76 := Tryd.zeroValue89, t85 := Tryd.underlying111, a85 := Tryd.isAgg111, z85 := Tryd.sizeOf111, v85 := Tryd.zeroValue111, t127 := Tryd.underlying107, a127 := Tryd.isAgg107, z127 := Tryd.sizeOf107, v127 := Tryd.zeroValue107, t143 := Tryd.underlying141, a143 := Tryd.isAgg141, z143 := Tryd.sizeOf141, v143 := Tryd.zeroValue141, t145 := Tryd.underlying143, a145 := Tryd.isAgg143, z145 := Tryd.sizeOf143, v145 := Tryd.zeroValue143, t167 := Tryd.underlying110, a167 := Tryd.isAgg110, z167 := Tryd.sizeOf110, v167 := Tryd.zeroValue110, t168 := Tryd.underlying113, a168 := Tryd.isAgg113, z168 := Tryd.sizeOf113, v168 := Tryd.zeroValue113, t171 := Tryd.underlying116, a171 := Tryd.isAgg116, z171 := Tryd.sizeOf116, v171 := Tryd.zeroValue116, t173 := Tryd.underlying119, a173 := Tryd.isAgg119, z173 := Tryd.sizeOf119, v173 := Tryd.zeroValue119, t175 := Tryd.underlying128, a175 := Tryd.isAgg128, z175 := Tryd.sizeOf128, v175 := Tryd.zeroValue128, t210 := Tryd.underlying132, a210 := Tryd.isAgg132, z210 := Tryd.sizeOf132, v210 := Tryd.zeroValue132, t212 := Tryd.underlying135, a212 := Tryd.isAgg135, z212 := Tryd.sizeOf135, v212 := Tryd.zeroValue135, t213 := Tryd.underlying137, a213 := Tryd.isAgg137, z213 := Tryd.sizeOf137, t232 := Tryd.underlying151, a232 := Tryd.isAgg151, z232 := Tryd.sizeOf151, v232 := Tryd.zeroValue151, t233 := Tryd.underlying152, a233 := Tryd.isAgg152, z233 := Tryd.sizeOf152, v233 := Tryd.zeroValue152, g15 := by kernel_rfl, g16 := by kernel_rfl, g17 := by kernel_rfl, g18 := by kernel_rfl, g19 := by kernel_rfl, t80 := Tryd.underlying97, a80 := Tryd.isAgg97, z80 := Tryd.sizeOf97, v80 := Tryd.zeroValue97, i0 := Eq.refl (some (some (Value.tuple #[]), 1, 0)), i2 := Eq.refl (some (some (Value.int IntKind.i64 0), 1, 8)), i3 := Eq.refl (some (some (Value.int IntKind.i64 0), 1, 8)), i4 := Eq.refl (some (some (Value.bool false), 1, 1)), i5 := Eq.refl (some (some (Value.int IntKind.u8 0), 1, 1)), i9 := Eq.refl (some (some (Value.string { data := #[] }), 1, 16)), i20 := Eq.refl (some (some Value.nilIface, 1, 16)), i21 := Eq.refl (some (some (Value.int IntKind.i32 0), 1, 4)), i37 := Eq.refl (some (some (Value.slice none 0 0), 1, 24)), i46 := Eq.refl (some (some (Value.int IntKind.u64 0), 1, 8)), i51 := Eq.refl (some (some (Value.int IntKind.u32 0), 1, 4)), i53 := Eq.refl (some (some (Value.int IntKind.u64 0), 1, 8)), i75 := Eq.refl (some (some Value.nilIface, 1, 16)), i76 := Eq.refl (some (some (Value.tuple #[Value.int IntKind.i64 0, Value.nilIface]), 1, 0)), i80 := Eq.refl (some (some Value.nilFunc, 1, 8)), i85 := Eq.refl (some (some (Value.tuple #[Value.int IntKind.i64 0, Value.nilIface]), 1, 0)), i127 := Eq.refl (some (some (Value.pointer none), 1, 8)), i143 := Eq.refl (some (some (Value.pointer none), 1, 8)), i145 := Eq.refl (some (some (Value.agg #[Value.string { data := #[] }]), 1, 16)), i167 := Eq.refl (some (some (Value.int IntKind.i64 0), 1, 8)), i168 := Eq.refl (some (some (Value.pointer none), 1, 8)), i171 := Eq.refl (some (some (Value.agg #[Value.int IntKind.u8 0, Value.int IntKind.u8 0, Value.int IntKind.u8 0, Value.int IntKind.u8 0, Value.int IntKind.u8 0, Value.int IntKind.u8 0, Value.int IntKind.u8 0, Value.int IntKind.u8 0, Value.int IntKind.u8 0, Value.int IntKind.u8 0, Value.int IntKind.u8 0, Value.int IntKind.u8 0, Value.int IntKind.u8 0, Value.int IntKind.u8 0, Value.int IntKind.u8 0, Value.int IntKind.u8 0, Value.int IntKind.u8 0, Value.int IntKind.u8 0, Value.int IntKind.u8 0, Value.int IntKind.u8 0, Value.int IntKind.u8 0, Value.int IntKind.u8 0, Value.int IntKind.u8 0, Value.int IntKind.u8 0]), 24, 24)), i173 := Eq.refl (some (some (Value.tuple #[Value.slice none 0 0, Value.string { data := #[] }]), 1, 0)), i175 := Eq.refl (some (some (Value.tuple #[Value.int IntKind.u64 0, Value.nilIface]), 1, 0)), i210 := Eq.refl (some (some (Value.agg #[Value.string { data := #[] }, Value.string { data := #[] }, Value.nilIface]), 3, 48)), i212 := Eq.refl (some (some (Value.agg #[Value.int IntKind.u64 0, Value.int IntKind.u64 0, Value.int IntKind.u64 0, Value.int IntKind.u64 0, Value.int IntKind.u64 0, Value.int IntKind.u64 0, Value.int IntKind.u64 0, Value.int IntKind.u64 0, Value.int IntKind.u64 0, Value.int IntKind.u64 0, Value.int IntKind.u64 0, Value.int IntKind.u64 0, Value.int IntKind.u64 0, Value.int IntKind.u64 0, Value.int IntKind.u64 0, Value.int IntKind.u64 0, Value.int IntKind.u64 0, Value.int IntKind.u64 0, Value.int IntKind.u64 0, Value.int IntKind.u64 0]), 20, 160)), i232 := Eq.refl (some (some (Value.agg #[Value.int IntKind.u8 0, Value.int IntKind.u8 0, Value.int IntKind.u8 0, Value.int IntKind.u8 0, Value.int IntKind.u8 0, Value.int IntKind.u8 0, Value.int IntKind.u8 0, Value.int IntKind.u8 0, Value.int IntKind.u8 0, Value.int IntKind.u8 0, Value.int IntKind.u8 0, Value.int IntKind.u8 0, Value.int IntKind.u8 0, Value.int IntKind.u8 0, Value.int IntKind.u8 0, Value.int IntKind.u8 0, Value.int IntKind.u8 0, Value.int IntKind.u8 0, Value.int IntKind.u8 0, Value.int IntKind.u8 0, Value.int IntKind.u8 0, Value.int IntKind.u8 0, Value.int IntKind.u8 0, Value.int IntKind.u8 0, Value.int IntKind.u8 0, Value.int IntKind.u8 0, Value.int IntKind.u8 0, Value.int IntKind.u8 0, Value.int IntKind.u8 0, Value.int IntKind.u8 0, Value.int IntKind.u8 0, Value.int IntKind.u8 0]), 32, 32)), i233 := Eq.refl (some (some (Value.agg (let y := let y := let y := let y := [Value.int IntKind.u8 0, Value.int IntKind.u8 0, Value.int IntKind.u8 0, Value.int IntKind.u8 0]; Value.int IntKind.u8 0 :: Value.int IntKind.u8 0 :: Value.int IntKind.u8 0 :: Value.int IntKind.u8 0 :: y; let y := Value.int IntKind.u8 0 :: Value.int IntKind.u8 0 :: Value.int IntKind.u8 0 :: Value.int IntKind.u8 0 :: y; Value.int IntKind.u8 0 :: Value.int IntKind.u8 0 :: Value.int IntKind.u8 0 :: Value.int IntKind.u8 0 :: y; let y := let y := Value.int IntKind.u8 0 :: Value.int IntKind.u8 0 :: Value.int IntKind.u8 0 :: Value.int IntKind.u8 0 :: y; Value.int IntKind.u8 0 :: Value.int IntKind.u8 0 :: Value.int IntKind.u8 0 :: Value.int IntKind.u8 0 :: y; let y := Value.int IntKind.u8 0 :: Value.int IntKind.u8 0 :: Value.int IntKind.u8 0 :: Value.int IntKind.u8 0 :: y; Value.int IntKind.u8 0 :: Value.int IntKind.u8 0 :: Value.int IntKind.u8 0 :: Value.int IntKind.u8 0 :: y; let y := let y := let y := Value.int IntKind.u8 0 :: Value.int IntKind.u8 0 :: Value.int IntKind.u8 0 :: Value.int IntKind.u8 0 :: y; Value.int IntKind.u8 0 :: Value.int IntKind.u8 0 :: Value.int IntKind.u8 0 :: Value.int IntKind.u8 0 :: y; let y := Value.int IntKind.u8 0 :: Value.int IntKind.u8 0 :: Value.int IntKind.u8 0 :: Value.int IntKind.u8 0 :: y; Value.int IntKind.u8 0 :: Value.int IntKind.u8 0 :: Value.int IntKind.u8 0 :: Value.int IntKind.u8 0 :: y; let y := let y := Value.int IntKind.u8 0 :: Value.int IntKind.u8 0 :: Value.int IntKind.u8 0 :: Value.int IntKind.u8 0 :: y; Value.int IntKind.u8 0 :: Value.int IntKind.u8 0 :: Value.int IntKind.u8 0 :: Value.int IntKind.u8 0 :: y; let y := Value.int IntKind.u8 0 :: Value.int IntKind.u8 0 :: Value.int IntKind.u8 0 :: Value.int IntKind.u8 0 :: y; Value.int IntKind.u8 0 :: Value.int IntKind.u8 0 :: Value.int IntKind.u8 0 :: Value.int IntKind.u8 0 :: y).toArray), 64, 64)), m15 := by kernel_rfl, m16 := by kernel_rfl, m17 := by kernel_rfl, m18 := by kernel_rfl, m19 := by kernel_rfl, c0 := Eq.refl (some false), c2 := Eq.refl (some true), c3 := Eq.refl (some true), c4 := Eq.refl (some true), c5 := Eq.refl (some true), c9 := Eq.refl (some true), c20 := Eq.refl (some true), c21 := Eq.refl (some true), c37 := Eq.refl (some false), c46 := Eq.refl (some true), c51 := Eq.refl (some true), c53 := Eq.refl (some true), c75 := Eq.refl (some true), c76 := Eq.refl (some false), c80 := Eq.refl (some false), c85 := Eq.refl (some false), c127 := Eq.refl (some true), c143 := Eq.refl (some true), c145 := Eq.refl (some true), c167 := Eq.refl (some true), c168 := Eq.refl (some true), c171 := Eq.refl (some true), c173 := Eq.refl (some false), c175 := Eq.refl (some false), c210 := Eq.refl (some true), c212 := Eq.refl (some true), c213 := Eq.refl (some true), c232 := Eq.refl (some true), c233 := Eq.refl (some true) }
end Go.Proofs.YtfcbhgiccgommaaDoor.F9K

namespace Go.Proofs.YtfcbhgiccgommaaDoor.F9K
open Go Go.Proofs Go.Proofs.YtfcbhgiccgommaaDoorAbs
variable [Base]
set_option maxRecDepth 100000
/-! ### Itoa, Join: out of the kit's shelf -/
theorem extra156 : Builder.Extra Tryd.prog lays156_ren where
  sizeBuilder := by kernel_rfl
  liesBuilder := by kernel_rfl
  t5 := by kernel_rfl
  a5 := fun w => run_isAgg' (by kernel_rfl)
  z5 := fun w => run_sizeOf' (by kernel_rfl)
  v5 := fun w => run_zeroValue' (by kernel_rfl)
  infoByte := by kernel_rfl
  cellsByte := by kernel_rfl
  sizeByte := by kernel_rfl
  neB5 := by decide
def itoaB (i : Int) : ByteArray := ⟨(Lib.decDigits i.toNat).toArray⟩
theorem vrs_one {ρ : Nat → Option Nat} {sz : Nat → Nat} {v : Value} {cargs : Array Value} (h : VRs ρ sz [v] cargs.toList) : ∃ cv, cargs = #[cv] ∧ VRel ρ sz v cv := by
  obtain ⟨l⟩ := cargs
  match l, h with
  | [], h => exact absurd h.len (by simp)
  | [a], h => exact ⟨a, rfl, h.at_ 0 (by simp) (by simp)⟩
  | a :: b :: r, h => exact absurd h.len (by simp)
theorem vrs_two {ρ : Nat → Option Nat} {sz : Nat → Nat} {v u : Value} {cargs : Array Value} (h : VRs ρ sz [v, u] cargs.toList) : ∃ cv cu, cargs = #[cv, cu] ∧ VRel ρ sz v cv ∧ VRel ρ sz u cu := by
  obtain ⟨l⟩ := cargs
  match l, h with
  | [], h => exact absurd h.len (by simp)
  | [a], h => exact absurd h.len (by simp)
  | [a, b], h => exact ⟨a, b, rfl, h.at_ 0 (by simp) (by simp), h.at_ 1 (by simp) (by simp)⟩
  | a :: b :: c :: r, h => exact absurd h.len (by simp)
theorem strconv_ItoaS {i : Int} (h0 : 0 ≤ i) (h1 : i < 100) (g : AMem) (n : Nat) : FnC Tryd.prog f_strconv_Itoa [.int .i64 i] g n (fun _ => False) (.string (itoaB i)) g n := by
  refine fnC_of_below (by kernel_rfl) rfl fun ρ w cargs hb0 hrep hargs => ?_
  obtain ⟨cv, rfl, hc⟩ := vrs_one hargs
  cases hc
  have h := Any.strconv_Itoa_small lays171 i.toNat (by omega) w
  rw [show ((i.toNat : Nat) : Int) = i by omega] at h
  exact Calls.mono h fun e w' ⟨h1, h2⟩ => ⟨h1, h2 ▸ Go.RowKit.Below.refl _ _⟩
def itoaE (args : List Value) (g : AMem) (n : Nat) : Option Value := match args with
  | [.int .i64 i] => if 0 ≤ i ∧ i < 100 then some (.string (itoaB i)) else none
  | _ => none
theorem itoaE_ok : ExtOne Tryd.prog f_strconv_Itoa itoaE := fun args g n v hd he => by
  unfold itoaE at he
  split at he
  · split at he
    · rename_i hi
      cases he
      exact ⟨by kernel_rfl, strconv_ItoaS hi.1 hi.2 g n⟩
    · cases he
  · cases he
def joinB (xs : List ByteArray) (sep : ByteArray) : ByteArray := ⟨(Lib.join (xs.map (·.data.toList)) sep.data.toList).toArray⟩
theorem strings_JoinC (b o m : Nat) (xs : List ByteArray) (hm : m = xs.length) (sep : ByteArray) (g : AMem) (n : Nat) (h : aRead g 1 (.slice (some ⟨b, o, none⟩) m 1) = some (m, xs.map Value.string)) (h0 : 0 < xs.length) (hN : xs.length ≤ 140737488355328)
    (hlen : (Lib.join (xs.map (·.data.toList)) sep.data.toList).length ≤ 140737488355328) : FnC Tryd.prog f_strings_Join [.slice (some ⟨b, o, none⟩) m 1, .string sep] g n (fun _ => False) (.string (joinB xs sep)) g n := by
  refine fnC_of_below (by kernel_rfl) rfl fun ρ w cargs hb0 hrep hargs => ?_
  obtain ⟨cv, cu, rfl, hc, hu⟩ := vrs_two hargs
  cases hu
  obtain ⟨ys, e1, e2, e3⟩ := aRead_sound hrep hc h
  cases hc with
  | sliceLost _ _ _ _ hs => cases hs
  | sliceFull _ _ _ hs => cases hs
  | slice _ _ _ _ b' c hb hn hcap =>
    rcases e3 with ⟨e, _⟩ | ⟨a, c', e, hcell⟩
    · cases e
    · simp only [Value.slice.injEq, Option.some.injEq] at e
      obtain ⟨rfl, _, rfl⟩ := e
      subst hm
      refine Any.strings_Join lays156 extra156 b' o c xs sep w (fun j x hj => ?_) (hrep.old _ _ hb) hN hn hlen
      have hjl : j < xs.length := (List.getElem?_eq_some_iff.1 hj).1
      have hy : j < ys.length := by rw [← e2.len]; simpa using hjl
      have hr := e2.at_ j (by simpa using hjl) hy
      have hx : (xs.map Value.string)[j]'(by simpa using hjl) = .string x := by
        rw [List.getElem_map]; congr 1; exact (List.getElem?_eq_some_iff.1 hj).2
      rw [hx] at hr
      have hv : ys[j] = .string x := by cases hyj : ys[j] <;> rw [hyj] at hr <;> cases hr; rfl
      have := hcell j (.string x) (by rw [List.getElem?_eq_getElem hy, hv])
      have e : Addr.add ⟨b', o, none⟩ j = ⟨b', o + j, none⟩ := by
        unfold Addr.add
        by_cases h : j = 0
        · subst h; rfl
        · simp [h]
      rw [← e]; exact this
def strsOf : List Value → Option (List ByteArray)
  | [] => some []
  | .string s :: r => (strsOf r).map (s :: ·)
  | _ :: _ => none
theorem strsOf_map : ∀ (l : List Value) (xs : List ByteArray), strsOf l = some xs → l = xs.map Value.string
  | [], xs, h => by cases h; rfl
  | v :: r, xs, h => by
    cases v <;> simp only [strsOf] at h <;> try (cases h; done)
    rename_i s
    obtain ⟨ys, h1, rfl⟩ := Option.map_eq_some_iff.1 h
    rw [List.map_cons, ← strsOf_map r ys h1]
def joinE (args : List Value) (g : AMem) (n : Nat) : Option Value := match args with
  | [.slice (some ⟨b, o, none⟩) m 1, .string sep] => match aRead g 1 (.slice (some ⟨b, o, none⟩) m 1) with
    | some (_, ys) => match strsOf ys with
      | some xs => if m = xs.length ∧ 0 < m ∧ m ≤ 1000 ∧ (Lib.join (xs.map (·.data.toList)) sep.data.toList).length ≤ 140737488355328 then some (.string (joinB xs sep)) else none
      | none => none
    | none => none
  | _ => none
theorem joinE_ok : ExtOne Tryd.prog f_strings_Join joinE := fun args g n v hd he => by
  unfold joinE at he
  split at he
  · rename_i b o m sep
    split at he
    · rename_i k ys hr
      split at he
      · rename_i xs hs
        split at he
        · rename_i hc
          obtain ⟨rfl, h2, h3, h4⟩ := hc
          cases he
          have e := strsOf_map _ _ hs
          subst e
          have hk : k = xs.length := by
            rw [aRead_at, if_neg (by omega)] at hr
            unfold readR at hr
            split at hr
            · split at hr
              · simp only [Option.some.injEq, Prod.mk.injEq] at hr; exact hr.1.symm
              · cases hr
            · cases hr
          subst hk
          exact ⟨by kernel_rfl, strings_JoinC b o _ xs rfl sep g n hr h2 (by omega) h4⟩
        · cases he
      · cases he
    · cases he
  · cases he
def ext : XExt := [(f_strconv_Itoa, itoaE), (f_strings_Join, joinE)]
theorem extOk : ExtOk Tryd.prog ext := ExtOk.cons itoaE_ok (ExtOk.cons joinE_ok ExtOk.nil)
end Go.Proofs.YtfcbhgiccgommaaDoor.F9K

namespace Go.Proofs.YtfcbhgiccgommaaDoor.F9K
open Go Go.Proofs Go.Proofs.YtfcbhgiccgommaaDoorAbs
variable [Base]
set_option maxRecDepth 100000
/-! ### Atoi -/
/-- What strconv.ErrSyntax holds at the start is nil or an error. -/
def BaseErr [Base] : Prop := laysC172_ren.g 15 < Base.K ∧ ∃ ev, Base.W.cell? ⟨laysC172_ren.g 15, 0, none⟩ = some ev ∧ (ev = .nilIface ∨ ∃ te pe, ev = .iface te pe)
def errV : Value := .iface (laysC172_ren.t 168) junk
def atoiV (s : ByteArray) : Option Value := match Lib.atoiAll s.data.toList with
  | .ok v => some (.tuple #[.int .i64 v, .nilIface])
  | .syntax => some (.tuple #[.int .i64 0, errV])
  | .range => none
theorem tup2 {ρ : Nat → Option Nat} {sz : Nat → Nat} {a b c d : Value} (h : VRel ρ sz a b) (h' : VRel ρ sz c d) : VRel ρ sz (.tuple #[a, c]) (.tuple #[b, d]) := .tuple _ _ rfl fun i h1 h2 => by
  match i, h1 with
  | 0, _ => exact h
  | 1, _ => exact h'
theorem strconv_AtoiS (hE : BaseErr) {s : ByteArray} (hs : s.size ≤ 100000) {v : Value} (hv : atoiV s = some v) (g : AMem) (n : Nat) : FnC Tryd.prog f_strconv_Atoi [.string s] g n (fun _ => False) v g n := by
  refine fnC_of_belowR (by kernel_rfl) fun ρ w cargs hb hrep hargs => ?_
  obtain ⟨cv, rfl, hc⟩ := vrs_one hargs
  cases hc
  unfold atoiV at hv
  split at hv
  · rename_i x hx
    cases hv
    refine Calls.mono (Any.strconv_Atoi_ok laysC172 s (by omega) x hx w) fun e w' ⟨h1, h2⟩ => ⟨_, h1, fun sz => pureV_rel rfl, ?_⟩
    rcases h2 with rfl | ⟨t, rfl⟩
    · exact Go.RowKit.Below.refl _ _
    · exact Lib.bytesWorld_below w _ t
  · rename_i hx
    cases hv
    obtain ⟨hk, ev, h1, h2⟩ := hE
    refine Calls.mono (Any.strconv_Atoi_syntax laysC172 s (by omega) hx ev w (by rw [cell_base hb hk]; exact h1) h2) fun e w' ⟨N, h3, _, _, h4⟩ => ⟨_, h3, fun sz => tup2 (.int _ _) (.iface _ _ _ (.junk _)), h4⟩
  · cases hv
def atoiE (args : List Value) (g : AMem) (n : Nat) : Option Value := match args with
  | [.string s] => if s.size ≤ 100000 then atoiV s else none
  | _ => none
theorem atoiE_ok (hE : BaseErr) : ExtOne Tryd.prog f_strconv_Atoi atoiE := fun args g n v hd he => by
  unfold atoiE at he
  split at he
  · split at he
    · rename_i hs
      exact ⟨by kernel_rfl, strconv_AtoiS hE hs he g n⟩
    · cases he
  · cases he
theorem x_IndexByteString : extFn Tryd.prog f_internal_bytealg_IndexByteString = some Extern.BytealgIndexByte.indexByte := by kernel_rfl
noncomputable def ext2 : XExt := (f_internal_bytealg_IndexByteString, xext Tryd.prog Extern.BytealgIndexByte.indexByte) :: (f_strconv_Atoi, atoiE) :: ext
theorem ext2Ok (hE : BaseErr) : ExtOk Tryd.prog ext2 := ExtOk.cons (xext_ok x_IndexByteString) (ExtOk.cons (atoiE_ok hE) extOk)
end Go.Proofs.YtfcbhgiccgommaaDoor.F9K

namespace Go.Proofs.YtfcbhgiccgommaaDoor.F9K
open Go Go.Proofs Go.Proofs.YtfcbhgiccgommaaDoorAbs
variable [Base]
set_option maxRecDepth 100000
/-! ### What a card's listed variables give -/
theorem laidVars_mem {P : Program} {w : World} : ∀ {l : List (String × DataW Unit)} {ps : List MemPlace}, DataW.LaidVars P w l ps → ∀ x, x ∈ l → ∃ g t cs fuel p, P.globalNamed x.1 = some g ∧ (P.globals[g]?).map (·.type) = some t ∧ w.var? P x.1 = some cs ∧ DataW.trod (fun _ => ()) P w 0 (fun _ => true) false fuel t cs.toList = some (x.2, p)
  | [], ps, h, x, hx => by cases hx
  | (n, d) :: r, ps, h, x, hx => by
    obtain ⟨g, t, cs, fuel, p, q, h1, h2, h3, h4, h5, _⟩ := h
    cases hx with
    | head => exact ⟨g, t, cs, fuel, p, h1, h2, h3, h4⟩
    | tail _ hx => exact laidVars_mem h5 x hx
theorem iface_cell {P : Program} {w : World} {fuel : Nat} {t : TypeId} {ms : Array (String × TypeId)} {cs : Array Value} {x : DataW Unit × List MemPlace} (ht : P.underlying t = some (.interface ms)) (h : DataW.trod (fun _ => ()) P w 0 (fun _ => true) false fuel t cs.toList = some x) : ∃ ev, cs = #[ev] ∧ (ev = .nilIface ∨ ∃ te pe, ev = .iface te pe) := by
  cases fuel with
  | zero => simp [DataW.trod] at h
  | succ fuel =>
    unfold DataW.trod at h
    rw [ht] at h
    obtain ⟨l⟩ := cs
    match l, h with
    | [], h => simp at h
    | [v], h => cases v <;> first | exact ⟨_, rfl, .inl rfl⟩ | exact ⟨_, rfl, .inr ⟨_, _, rfl⟩⟩ | (simp at h)
    | v :: u :: r, h => cases v <;> simp at h
theorem base_err {P : Program} {W : World} {l : List (String × DataW Unit)} (hp : laidMetH P l W) (hplain : laidMetH P l W = laidMet P l W) {x : String × DataW Unit} (hx : x ∈ l) {k : Nat} {t : TypeId} {ms : Array (String × TypeId)} (hk : P.globalNamed x.1 = some k) (hty : (P.globals[k]?).map (·.type) = some t) (hu : P.underlying t = some (.interface ms)) :
    k < W.heap.size ∧ ∃ ev, W.cell? ⟨k, 0, none⟩ = some ev ∧ (ev = .nilIface ∨ ∃ te pe, ev = .iface te pe) := by
  rw [hplain] at hp
  obtain ⟨ps, hL, _⟩ := hp
  obtain ⟨g, t', cs, fuel, p, h1, h2, h3, h4⟩ := laidVars_mem hL x hx
  obtain rfl := Option.some.inj (hk.symm.trans h1)
  obtain rfl := Option.some.inj (hty.symm.trans h2)
  obtain ⟨ev, rfl, hev⟩ := iface_cell hu h4
  have hc := World.var?_cell hk h3 0
  have hc : W.cell? ⟨k, 0, none⟩ = some ev := by simpa using hc
  exact ⟨Lib.lt_of_cell hc, ev, hc, hev⟩
end Go.Proofs.YtfcbhgiccgommaaDoor.F9K

namespace Go.Proofs.YtfcbhgiccgommaaDoor.F9K
open Go Go.Proofs Go.Proofs.YtfcbhgiccgommaaDoorAbs
variable [Base]
set_option maxRecDepth 100000
theorem known9_run : xfnE Tryd.prog tab ext2 3000 30 f_reevelaw9_PathKnown [] (fun _ => none) 0 = some ⟨.bool true, fun _ => none, 0, 0, true⟩ := by kernel_rfl
theorem known9 (hE : BaseErr) (g : AMem) (n : Nat) : FnC Tryd.prog f_reevelaw9_PathKnown [] g n (fun _ => False) (.bool true) g n :=
  FnC.closed (xfnE_ok hm tabOk (ext2Ok hE) 3000 30 _ _ _ _ _ (fun _ h => absurd rfl h) known9_run).2.1 rfl rfl g n
end Go.Proofs.YtfcbhgiccgommaaDoor.F9K
