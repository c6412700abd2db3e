/- Functions of the program made ready for walking, each with its proof; facts of types. Written by gen2.py. -/
import Derived.Test.YtafpgojoemcgnaaF24a
set_option linter.unusedVariables false
set_option maxRecDepth 100000
namespace Go.Proofs.Ytafpgojoemcgnaa.F24
open Go Go.Proofs Go.Proofs.YtafpgojoemcgnaaAbs
theorem t_reeveref22_GoodWrites : FnT Try.prog 57 rc_reeveref22_GoodWrites [.tmp 4] 2 := ⟨⟨[], Try.f57, _, Try.func57, rfl, by kernel_rfl, by kernel_rfl, by kernel_rfl, rfl, by decide⟩, by kernel_rfl⟩
theorem y_reeveref22_GoodWrites : (tsize Try.prog 3 = some 1) ∧ (tagg Try.prog 3 = some false) ∧ (zeroFlat Try.prog 3 = some [.int .i64 0]) ∧ (Try.prog.underlying 3 = some (.int .i64)) ∧ (tsize Try.prog 4 = some 1) ∧ (tagg Try.prog 4 = some false) ∧ (zeroFlat Try.prog 4 = some [.bool false]) ∧ (Try.prog.underlying 4 = some (.bool)) ∧ (tsize Try.prog 23 = some 1) ∧ (tagg Try.prog 23 = some false) ∧ (zeroFlat Try.prog 23 = some [.int .u64 0]) ∧ (Try.prog.underlying 23 = some (.int .u64)) ∧ (tsize Try.prog 67 = some 1) ∧ (tagg Try.prog 67 = some false) ∧ (zeroFlat Try.prog 67 = some [.slice none 0 0]) ∧ (Try.prog.underlying 67 = some (.slice 92)) ∧ (tsize Try.prog 73 = some 3) ∧ (tagg Try.prog 73 = some true) ∧ (zeroFlat Try.prog 73 = some [.int .i64 0, .int .i64 0, .int .i64 0]) ∧ (tplaces Try.prog 73 = some [(0, 1), (1, 1), (2, 1)]) ∧ (tfield Try.prog 73 0 = some (3, 0)) ∧ (tfield' Try.prog 73 0 = some (3, 0)) ∧ (tfield Try.prog 73 1 = some (3, 1)) ∧ (tfield' Try.prog 73 1 = some (3, 1)) ∧ (tfield Try.prog 73 2 = some (3, 2)) ∧ (tfield' Try.prog 73 2 = some (3, 2)) ∧ (tsize Try.prog 92 = some 2) ∧ (tagg Try.prog 92 = some true) ∧ (zeroFlat Try.prog 92 = some [.int .i64 0, .int .u64 0]) ∧ (tplaces Try.prog 92 = some [(0, 1), (1, 1)]) ∧ (tfield Try.prog 92 0 = some (3, 0)) ∧ (tfield' Try.prog 92 0 = some (3, 0)) ∧ (tfield Try.prog 92 1 = some (23, 1)) ∧ (tfield' Try.prog 92 1 = some (23, 1)) := ⟨ts_int, ta_int, tz_int, tu_int, ts_bool, ta_bool, tz_bool, tu_bool, ts_uint64, ta_uint64, tz_uint64, tu_uint64, ts_S_reeveref22_Write, ta_S_reeveref22_Write, tz_S_reeveref22_Write, tu_S_reeveref22_Write, ts_reeveref1_Geo, ta_reeveref1_Geo, tz_reeveref1_Geo, tp_reeveref1_Geo, tf_reeveref1_Geo_Threads, tg_reeveref1_Geo_Threads, tf_reeveref1_Geo_Slots, tg_reeveref1_Geo_Slots, tf_reeveref1_Geo_Things, tg_reeveref1_Geo_Things, ts_reeveref22_Write, ta_reeveref22_Write, tz_reeveref22_Write, tp_reeveref22_Write, tf_reeveref22_Write_At, tg_reeveref22_Write_At, tf_reeveref22_Write_V, tg_reeveref22_Write_V⟩
/-- reeve/tag.Good -/
abbrev f_tag_Good : FuncId := 58
def rc_tag_Good : RCode :=
  (.seq
    (.region [⟨some 2, .none, true, 4, .assign (.const (.bool false))⟩])
  (.keep [0]
  (.seq
    (.region [⟨some 6, .none, true, 85, .move (.tmp 0)⟩,
      ⟨some 7, .none, true, 83, .call { callee := .value (.func 67), args := #[.tmp 6], argTypes := #[85] }⟩,
      ⟨some 5, .none, true, 83, .move (.tmp 7)⟩,
      ⟨some 8, .none, true, 23, .extract (.tmp 5) 0⟩,
      ⟨some 9, .none, true, 4, .extract (.tmp 5) 1⟩,
      ⟨some 3, .none, true, 23, .assign (.tmp 8)⟩,
      ⟨some 4, .none, true, 4, .assign (.tmp 9)⟩])
  (.keep [4]
  (.seq
    (.region [⟨some 10, .none, true, 4, .move (.tmp 4)⟩,
      ⟨some 2, .none, true, 4, .assign (.tmp 10)⟩])
  .ret)))))
theorem t_tag_Good : FnT Try.prog 58 rc_tag_Good [.tmp 2] 1 := ⟨⟨[], Try.f58, _, Try.func58, rfl, by kernel_rfl, by kernel_rfl, by kernel_rfl, rfl, by decide⟩, by kernel_rfl⟩
theorem y_tag_Good : (tsize Try.prog 3 = some 1) ∧ (tagg Try.prog 3 = some false) ∧ (zeroFlat Try.prog 3 = some [.int .i64 0]) ∧ (Try.prog.underlying 3 = some (.int .i64)) ∧ (tsize Try.prog 4 = some 1) ∧ (tagg Try.prog 4 = some false) ∧ (zeroFlat Try.prog 4 = some [.bool false]) ∧ (Try.prog.underlying 4 = some (.bool)) ∧ (tsize Try.prog 23 = some 1) ∧ (tagg Try.prog 23 = some false) ∧ (zeroFlat Try.prog 23 = some [.int .u64 0]) ∧ (Try.prog.underlying 23 = some (.int .u64)) ∧ (tsize Try.prog 85 = some 1) ∧ (tagg Try.prog 85 = some false) ∧ (zeroFlat Try.prog 85 = some [.slice none 0 0]) ∧ (Try.prog.underlying 85 = some (.slice 100)) ∧ (tsize Try.prog 100 = some 2) ∧ (tagg Try.prog 100 = some true) ∧ (zeroFlat Try.prog 100 = some [.int .i64 0, .int .i64 0]) ∧ (tplaces Try.prog 100 = some [(0, 1), (1, 1)]) ∧ (tfield Try.prog 100 0 = some (3, 0)) ∧ (tfield' Try.prog 100 0 = some (3, 0)) ∧ (tfield Try.prog 100 1 = some (3, 1)) ∧ (tfield' Try.prog 100 1 = some (3, 1)) := ⟨ts_int, ta_int, tz_int, tu_int, ts_bool, ta_bool, tz_bool, tu_bool, ts_uint64, ta_uint64, tz_uint64, tu_uint64, ts_S_tag_Field, ta_S_tag_Field, tz_S_tag_Field, tu_S_tag_Field, ts_tag_Field, ta_tag_Field, tz_tag_Field, tp_tag_Field, tf_tag_Field_From, tg_tag_Field_From, tf_tag_Field_Len, tg_tag_Field_Len⟩
/-- (reeve/tag.Field).mask -/
abbrev f_tag_Field_mask : FuncId := 59
def rc_tag_Field_mask : RCode :=
  (.seq
    (.region [⟨some 1, .none, true, 0, .box 100 (.tmp 0)⟩,
      ⟨some 2, .none, true, 23, .assign (.const (.int .u64 0))⟩])
  (.keep [1]
  (.seq
    (.region [⟨some 3, .none, false, 0, .fieldAddr 100 (.tmp 1) 1⟩,
      ⟨some 4, .none, false, 3, .load 3 (.tmp 3)⟩,
      ⟨some 5, .none, false, 23, .binOp .shl 23 (.const (.int .u64 1)) (.tmp 4) 3⟩,
      ⟨some 6, .none, false, 23, .binOp .sub 23 (.tmp 5) (.const (.int .u64 1)) 23⟩,
      ⟨some 7, .none, false, 0, .fieldAddr 100 (.tmp 1) 0⟩,
      ⟨some 8, .none, false, 3, .load 3 (.tmp 7)⟩,
      ⟨some 9, .none, true, 23, .binOp .shl 23 (.tmp 6) (.tmp 8) 3⟩,
      ⟨some 2, .none, true, 23, .assign (.tmp 9)⟩])
  .ret)))
theorem t_tag_Field_mask : FnT Try.prog 59 rc_tag_Field_mask [.tmp 2] 1 := ⟨⟨[], Try.f59, _, Try.func59, rfl, by kernel_rfl, by kernel_rfl, by kernel_rfl, rfl, by decide⟩, by kernel_rfl⟩
theorem y_tag_Field_mask : (tsize Try.prog 3 = some 1) ∧ (tagg Try.prog 3 = some false) ∧ (zeroFlat Try.prog 3 = some [.int .i64 0]) ∧ (Try.prog.underlying 3 = some (.int .i64)) ∧ (tsize Try.prog 23 = some 1) ∧ (tagg Try.prog 23 = some false) ∧ (zeroFlat Try.prog 23 = some [.int .u64 0]) ∧ (Try.prog.underlying 23 = some (.int .u64)) ∧ (tsize Try.prog 100 = some 2) ∧ (tagg Try.prog 100 = some true) ∧ (zeroFlat Try.prog 100 = some [.int .i64 0, .int .i64 0]) ∧ (tplaces Try.prog 100 = some [(0, 1), (1, 1)]) ∧ (tfield Try.prog 100 0 = some (3, 0)) ∧ (tfield' Try.prog 100 0 = some (3, 0)) ∧ (tfield Try.prog 100 1 = some (3, 1)) ∧ (tfield' Try.prog 100 1 = some (3, 1)) := ⟨ts_int, ta_int, tz_int, tu_int, ts_uint64, ta_uint64, tz_uint64, tu_uint64, ts_tag_Field, ta_tag_Field, tz_tag_Field, tp_tag_Field, tf_tag_Field_From, tg_tag_Field_From, tf_tag_Field_Len, tg_tag_Field_Len⟩
/-- reeve/geo.Good -/
abbrev f_geo_Good : FuncId := 60
def rc_geo_Good : RCode :=
  (.seq
    (.region [⟨some 1, .none, true, 0, .box 49 (.tmp 0)⟩,
      ⟨some 2, .none, true, 4, .assign (.const (.bool false))⟩])
  (.keep [1]
  (.seq
    (.region [⟨some 3, .none, true, 0, .fieldAddr 49 (.tmp 1) 0⟩,
      ⟨some 4, .none, true, 3, .load 3 (.tmp 3)⟩,
      ⟨some 5, .none, true, 4, .call { callee := .value (.func 63), args := #[.tmp 4, .const (.int .i64 1), .const (.int .i64 4)], argTypes := #[3, 3, 3] }⟩,
      ⟨some 6, .none, true, 4, .move (.tmp 5)⟩,
      ⟨some 7, .some 6 true, true, 0, .fieldAddr 49 (.tmp 1) 1⟩,
      ⟨some 8, .some 6 true, true, 3, .load 3 (.tmp 7)⟩,
      ⟨some 9, .some 6 true, true, 0, .fieldAddr 49 (.tmp 1) 0⟩,
      ⟨some 10, .some 6 true, true, 3, .load 3 (.tmp 9)⟩,
      ⟨some 11, .some 6 true, true, 3, .binOp .mul 3 (.const (.int .i64 8)) (.tmp 10) 3⟩,
      ⟨some 12, .some 6 true, true, 4, .call { callee := .value (.func 63), args := #[.tmp 8, .tmp 11, .const (.int .i64 96)], argTypes := #[3, 3, 3] }⟩,
      ⟨some 13, .none, true, 4, .pick (.tmp 6) (.tmp 12) (.const (.bool false))⟩,
      ⟨some 14, .none, true, 4, .move (.tmp 13)⟩,
      ⟨some 15, .some 14 true, true, 0, .fieldAddr 49 (.tmp 1) 1⟩,
      ⟨some 16, .some 14 true, true, 3, .load 3 (.tmp 15)⟩,
      ⟨some 17, .some 14 true, true, 3, .binOp .rem 3 (.tmp 16) (.const (.int .i64 8)) 3⟩,
      ⟨some 18, .some 14 true, true, 4, .binOp .eql 3 (.tmp 17) (.const (.int .i64 0)) 3⟩,
      ⟨some 19, .none, true, 4, .pick (.tmp 14) (.tmp 18) (.const (.bool false))⟩,
      ⟨some 20, .none, true, 4, .move (.tmp 19)⟩,
      ⟨some 21, .some 20 true, true, 0, .fieldAddr 49 (.tmp 1) 2⟩,
      ⟨some 22, .some 20 true, true, 3, .load 3 (.tmp 21)⟩,
      ⟨some 23, .some 20 true, true, 0, .fieldAddr 49 (.tmp 1) 0⟩,
      ⟨some 24, .some 20 true, true, 3, .load 3 (.tmp 23)⟩,
      ⟨some 25, .some 20 true, true, 3, .binOp .add 3 (.tmp 24) (.const (.int .i64 2)) 3⟩,
      ⟨some 26, .some 20 true, true, 4, .call { callee := .value (.func 63), args := #[.tmp 22, .tmp 25, .const (.int .i64 48)], argTypes := #[3, 3, 3] }⟩,
      ⟨some 27, .none, true, 4, .pick (.tmp 20) (.tmp 26) (.const (.bool false))⟩,
      ⟨some 2, .none, true, 4, .assign (.tmp 27)⟩])
  .ret)))
theorem t_geo_Good : FnT Try.prog 60 rc_geo_Good [.tmp 2] 1 := ⟨⟨[], Try.f60, _, Try.func60, rfl, by kernel_rfl, by kernel_rfl, by kernel_rfl, rfl, by decide⟩, by kernel_rfl⟩
theorem y_geo_Good : (tsize Try.prog 3 = some 1) ∧ (tagg Try.prog 3 = some false) ∧ (zeroFlat Try.prog 3 = some [.int .i64 0]) ∧ (Try.prog.underlying 3 = some (.int .i64)) ∧ (tsize Try.prog 4 = some 1) ∧ (tagg Try.prog 4 = some false) ∧ (zeroFlat Try.prog 4 = some [.bool false]) ∧ (Try.prog.underlying 4 = some (.bool)) ∧ (tsize Try.prog 49 = some 3) ∧ (tagg Try.prog 49 = some true) ∧ (zeroFlat Try.prog 49 = some [.int .i64 0, .int .i64 0, .int .i64 0]) ∧ (tplaces Try.prog 49 = some [(0, 1), (1, 1), (2, 1)]) ∧ (tfield Try.prog 49 0 = some (3, 0)) ∧ (tfield' Try.prog 49 0 = some (3, 0)) ∧ (tfield Try.prog 49 1 = some (3, 1)) ∧ (tfield' Try.prog 49 1 = some (3, 1)) ∧ (tfield Try.prog 49 2 = some (3, 2)) ∧ (tfield' Try.prog 49 2 = some (3, 2)) := ⟨ts_int, ta_int, tz_int, tu_int, ts_bool, ta_bool, tz_bool, tu_bool, ts_geo_Geo, ta_geo_Geo, tz_geo_Geo, tp_geo_Geo, tf_geo_Geo_Threads, tg_geo_Geo_Threads, tf_geo_Geo_Slots, tg_geo_Geo_Slots, tf_geo_Geo_Things, tg_geo_Geo_Things⟩
/-- reeve/geo.Slot -/
abbrev f_geo_Slot : FuncId := 61
def rc_geo_Slot : RCode :=
  (.seq
    (.region [⟨some 2, .none, true, 0, .box 49 (.tmp 0)⟩,
      ⟨some 4, .none, true, 3, .assign (.const (.int .i64 0))⟩])
  (.keep [1, 2]
  (.seq
    (.seq
      (.region [⟨some 5, .none, true, 49, .load 49 (.tmp 2)⟩,
        ⟨some 6, .none, true, 4, .call { callee := .value (.func 60), args := #[.tmp 5], argTypes := #[49] }⟩,
        ⟨some 7, .none, true, 4, .unOp .not 4 (.tmp 6)⟩,
        ⟨some 8, .none, true, 4, .move (.tmp 7)⟩,
        ⟨some 9, .some 8 false, true, 3, .move (.tmp 1)⟩,
        ⟨some 10, .some 8 false, true, 0, .fieldAddr 49 (.tmp 2) 1⟩,
        ⟨some 11, .some 8 false, true, 3, .load 3 (.tmp 10)⟩,
        ⟨some 12, .some 8 false, true, 3, .binOp .sub 3 (.tmp 11) (.const (.int .i64 1)) 3⟩,
        ⟨some 13, .some 8 false, true, 4, .call { callee := .value (.func 63), args := #[.tmp 9, .const (.int .i64 0), .tmp 12], argTypes := #[3, 3, 3] }⟩,
        ⟨some 14, .some 8 false, true, 4, .unOp .not 4 (.tmp 13)⟩,
        ⟨some 15, .none, true, 4, .pick (.tmp 8) (.const (.bool true)) (.tmp 14)⟩])
    (.keep [1, 2, 15]
    (.cond (.tmp 15)
      (.seq
        (.region [⟨some 4, .none, true, 3, .assign (.const (.int .i64 0))⟩])
      .ret)
      .skip)))
  (.seq
    (.region [⟨some 16, .none, true, 49, .load 49 (.tmp 2)⟩,
      ⟨some 17, .none, true, 3, .call { callee := .value (.func 68), args := #[.tmp 16], argTypes := #[49] }⟩,
      ⟨some 18, .none, true, 3, .move (.tmp 1)⟩,
      ⟨some 19, .none, true, 3, .binOp .mul 3 (.const (.int .i64 2)) (.tmp 18) 3⟩,
      ⟨some 20, .none, true, 3, .binOp .add 3 (.tmp 17) (.tmp 19) 3⟩,
      ⟨some 4, .none, true, 3, .assign (.tmp 20)⟩])
  .ret))))
theorem t_geo_Slot : FnT Try.prog 61 rc_geo_Slot [.tmp 4] 2 := ⟨⟨[], Try.f61, _, Try.func61, rfl, by kernel_rfl, by kernel_rfl, by kernel_rfl, rfl, by decide⟩, by kernel_rfl⟩
theorem y_geo_Slot : (tsize Try.prog 3 = some 1) ∧ (tagg Try.prog 3 = some false) ∧ (zeroFlat Try.prog 3 = some [.int .i64 0]) ∧ (Try.prog.underlying 3 = some (.int .i64)) ∧ (tsize Try.prog 4 = some 1) ∧ (tagg Try.prog 4 = some false) ∧ (zeroFlat Try.prog 4 = some [.bool false]) ∧ (Try.prog.underlying 4 = some (.bool)) ∧ (tsize Try.prog 49 = some 3) ∧ (tagg Try.prog 49 = some true) ∧ (zeroFlat Try.prog 49 = some [.int .i64 0, .int .i64 0, .int .i64 0]) ∧ (tplaces Try.prog 49 = some [(0, 1), (1, 1), (2, 1)]) ∧ (tfield Try.prog 49 0 = some (3, 0)) ∧ (tfield' Try.prog 49 0 = some (3, 0)) ∧ (tfield Try.prog 49 1 = some (3, 1)) ∧ (tfield' Try.prog 49 1 = some (3, 1)) ∧ (tfield Try.prog 49 2 = some (3, 2)) ∧ (tfield' Try.prog 49 2 = some (3, 2)) := ⟨ts_int, ta_int, tz_int, tu_int, ts_bool, ta_bool, tz_bool, tu_bool, ts_geo_Geo, ta_geo_Geo, tz_geo_Geo, tp_geo_Geo, tf_geo_Geo_Threads, tg_geo_Geo_Threads, tf_geo_Geo_Slots, tg_geo_Geo_Slots, tf_geo_Geo_Things, tg_geo_Geo_Things⟩
/-- reeve/geo.Copy -/
abbrev f_geo_Copy : FuncId := 62
def rc_geo_Copy : RCode :=
  (.seq
    (.region [⟨some 1, .none, true, 0, .box 49 (.tmp 0)⟩,
      ⟨some 2, .none, true, 3, .assign (.const (.int .i64 0))⟩])
  (.keep [1]
  (.seq
    (.seq
      (.region [⟨some 3, .none, true, 49, .load 49 (.tmp 1)⟩,
        ⟨some 4, .none, true, 4, .call { callee := .value (.func 60), args := #[.tmp 3], argTypes := #[49] }⟩,
        ⟨some 5, .none, true, 4, .unOp .not 4 (.tmp 4)⟩])
    (.keep [1, 5]
    (.cond (.tmp 5)
      (.seq
        (.region [⟨some 2, .none, true, 3, .assign (.const (.int .i64 0))⟩])
      .ret)
      .skip)))
  (.seq
    (.region [⟨some 6, .none, false, 49, .load 49 (.tmp 1)⟩,
      ⟨some 7, .none, false, 3, .call { callee := .value (.func 69), args := #[.tmp 6], argTypes := #[49] }⟩,
      ⟨some 8, .none, false, 0, .fieldAddr 49 (.tmp 1) 2⟩,
      ⟨some 9, .none, false, 3, .load 3 (.tmp 8)⟩,
      ⟨some 10, .none, false, 3, .binOp .mul 3 (.const (.int .i64 8)) (.tmp 9) 3⟩,
      ⟨some 11, .none, true, 3, .binOp .add 3 (.tmp 7) (.tmp 10) 3⟩,
      ⟨some 2, .none, true, 3, .assign (.tmp 11)⟩])
  .ret))))
theorem t_geo_Copy : FnT Try.prog 62 rc_geo_Copy [.tmp 2] 1 := ⟨⟨[], Try.f62, _, Try.func62, rfl, by kernel_rfl, by kernel_rfl, by kernel_rfl, rfl, by decide⟩, by kernel_rfl⟩
theorem y_geo_Copy : (tsize Try.prog 3 = some 1) ∧ (tagg Try.prog 3 = some false) ∧ (zeroFlat Try.prog 3 = some [.int .i64 0]) ∧ (Try.prog.underlying 3 = some (.int .i64)) ∧ (tsize Try.prog 4 = some 1) ∧ (tagg Try.prog 4 = some false) ∧ (zeroFlat Try.prog 4 = some [.bool false]) ∧ (Try.prog.underlying 4 = some (.bool)) ∧ (tsize Try.prog 49 = some 3) ∧ (tagg Try.prog 49 = some true) ∧ (zeroFlat Try.prog 49 = some [.int .i64 0, .int .i64 0, .int .i64 0]) ∧ (tplaces Try.prog 49 = some [(0, 1), (1, 1), (2, 1)]) ∧ (tfield Try.prog 49 0 = some (3, 0)) ∧ (tfield' Try.prog 49 0 = some (3, 0)) ∧ (tfield Try.prog 49 1 = some (3, 1)) ∧ (tfield' Try.prog 49 1 = some (3, 1)) ∧ (tfield Try.prog 49 2 = some (3, 2)) ∧ (tfield' Try.prog 49 2 = some (3, 2)) := ⟨ts_int, ta_int, tz_int, tu_int, ts_bool, ta_bool, tz_bool, tu_bool, ts_geo_Geo, ta_geo_Geo, tz_geo_Geo, tp_geo_Geo, tf_geo_Geo_Threads, tg_geo_Geo_Threads, tf_geo_Geo_Slots, tg_geo_Geo_Slots, tf_geo_Geo_Things, tg_geo_Geo_Things⟩
/-- reeve/geo.in -/
abbrev f_geo_in : FuncId := 63
def rc_geo_in : RCode :=
  (.seq
    (.region [⟨some 6, .none, true, 4, .assign (.const (.bool false))⟩])
  (.keep [0, 1, 2]
  (.seq
    (.region [⟨some 7, .none, true, 3, .move (.tmp 0)⟩,
      ⟨some 8, .none, true, 3, .move (.tmp 1)⟩,
      ⟨some 9, .none, true, 4, .binOp .geq 3 (.tmp 7) (.tmp 8) 3⟩,
      ⟨some 10, .none, true, 4, .move (.tmp 9)⟩,
      ⟨some 11, .some 10 true, true, 3, .move (.tmp 0)⟩,
      ⟨some 12, .some 10 true, true, 3, .move (.tmp 2)⟩,
      ⟨some 13, .some 10 true, true, 4, .binOp .leq 3 (.tmp 11) (.tmp 12) 3⟩,
      ⟨some 14, .none, true, 4, .pick (.tmp 10) (.tmp 13) (.const (.bool false))⟩,
      ⟨some 6, .none, true, 4, .assign (.tmp 14)⟩])
  .ret)))
theorem t_geo_in : FnT Try.prog 63 rc_geo_in [.tmp 6] 3 := ⟨⟨[], Try.f63, _, Try.func63, rfl, by kernel_rfl, by kernel_rfl, by kernel_rfl, rfl, by decide⟩, by kernel_rfl⟩
theorem y_geo_in : (tsize Try.prog 3 = some 1) ∧ (tagg Try.prog 3 = some false) ∧ (zeroFlat Try.prog 3 = some [.int .i64 0]) ∧ (Try.prog.underlying 3 = some (.int .i64)) ∧ (tsize Try.prog 4 = some 1) ∧ (tagg Try.prog 4 = some false) ∧ (zeroFlat Try.prog 4 = some [.bool false]) ∧ (Try.prog.underlying 4 = some (.bool)) := ⟨ts_int, ta_int, tz_int, tu_int, ts_bool, ta_bool, tz_bool, tu_bool⟩
/-- reeve/reeveref1.long -/
abbrev f_reeveref1_long : FuncId := 64
def rc_reeveref1_long : RCode :=
  (.seq
    (.region [⟨some 0, .none, true, 3, .assign (.const (.int .i64 0))⟩])
  (.keep []
  (.seq
    (.region [⟨some 0, .none, true, 3, .assign (.const (.int .i64 1208))⟩])
  .ret)))
theorem t_reeveref1_long : FnT Try.prog 64 rc_reeveref1_long [.tmp 0] 0 := ⟨⟨[], Try.f64, _, Try.func64, rfl, by kernel_rfl, by kernel_rfl, by kernel_rfl, rfl, by decide⟩, by kernel_rfl⟩
theorem y_reeveref1_long : (tsize Try.prog 3 = some 1) ∧ (tagg Try.prog 3 = some false) ∧ (zeroFlat Try.prog 3 = some [.int .i64 0]) ∧ (Try.prog.underlying 3 = some (.int .i64)) := ⟨ts_int, ta_int, tz_int, tu_int⟩
/-- reeve/reeveref1.Slot -/
abbrev f_reeveref1_Slot : FuncId := 65
def rc_reeveref1_Slot : RCode :=
  (.seq
    (.region [⟨some 2, .none, true, 0, .box 73 (.tmp 0)⟩,
      ⟨some 4, .none, true, 3, .assign (.const (.int .i64 0))⟩])
  (.keep [1, 2]
  (.seq
    (.seq
      (.region [⟨some 5, .none, true, 73, .load 73 (.tmp 2)⟩,
        ⟨some 6, .none, true, 4, .call { callee := .value (.func 56), args := #[.tmp 5], argTypes := #[73] }⟩,
        ⟨some 7, .none, true, 4, .unOp .not 4 (.tmp 6)⟩,
        ⟨some 8, .none, true, 4, .move (.tmp 7)⟩,
        ⟨some 9, .some 8 false, true, 3, .move (.tmp 1)⟩,
        ⟨some 10, .some 8 false, true, 4, .binOp .lss 3 (.tmp 9) (.const (.int .i64 0)) 3⟩,
        ⟨some 11, .none, true, 4, .pick (.tmp 8) (.const (.bool true)) (.tmp 10)⟩,
        ⟨some 12, .none, true, 4, .move (.tmp 11)⟩,
        ⟨some 13, .some 12 false, true, 3, .move (.tmp 1)⟩,
        ⟨some 14, .some 12 false, true, 0, .fieldAddr 73 (.tmp 2) 1⟩,
        ⟨some 15, .some 12 false, true, 3, .load 3 (.tmp 14)⟩,
        ⟨some 16, .some 12 false, true, 4, .binOp .geq 3 (.tmp 13) (.tmp 15) 3⟩,
        ⟨some 17, .none, true, 4, .pick (.tmp 12) (.const (.bool true)) (.tmp 16)⟩])
    (.keep [1, 2, 17]
    (.cond (.tmp 17)
      (.seq
        (.region [⟨some 4, .none, true, 3, .assign (.const (.int .i64 0))⟩])
      .ret)
      .skip)))
  (.seq
    (.region [⟨some 18, .none, true, 73, .load 73 (.tmp 2)⟩,
      ⟨some 19, .none, true, 3, .call { callee := .value (.func 70), args := #[.tmp 18], argTypes := #[73] }⟩,
      ⟨some 20, .none, true, 3, .move (.tmp 1)⟩,
      ⟨some 21, .none, true, 3, .binOp .mul 3 (.const (.int .i64 2)) (.tmp 20) 3⟩,
      ⟨some 22, .none, true, 3, .binOp .add 3 (.tmp 19) (.tmp 21) 3⟩,
      ⟨some 4, .none, true, 3, .assign (.tmp 22)⟩])
  .ret))))
theorem t_reeveref1_Slot : FnT Try.prog 65 rc_reeveref1_Slot [.tmp 4] 2 := ⟨⟨[], Try.f65, _, Try.func65, rfl, by kernel_rfl, by kernel_rfl, by kernel_rfl, rfl, by decide⟩, by kernel_rfl⟩
theorem y_reeveref1_Slot : (tsize Try.prog 3 = some 1) ∧ (tagg Try.prog 3 = some false) ∧ (zeroFlat Try.prog 3 = some [.int .i64 0]) ∧ (Try.prog.underlying 3 = some (.int .i64)) ∧ (tsize Try.prog 4 = some 1) ∧ (tagg Try.prog 4 = some false) ∧ (zeroFlat Try.prog 4 = some [.bool false]) ∧ (Try.prog.underlying 4 = some (.bool)) ∧ (tsize Try.prog 73 = some 3) ∧ (tagg Try.prog 73 = some true) ∧ (zeroFlat Try.prog 73 = some [.int .i64 0, .int .i64 0, .int .i64 0]) ∧ (tplaces Try.prog 73 = some [(0, 1), (1, 1), (2, 1)]) ∧ (tfield Try.prog 73 0 = some (3, 0)) ∧ (tfield' Try.prog 73 0 = some (3, 0)) ∧ (tfield Try.prog 73 1 = some (3, 1)) ∧ (tfield' Try.prog 73 1 = some (3, 1)) ∧ (tfield Try.prog 73 2 = some (3, 2)) ∧ (tfield' Try.prog 73 2 = some (3, 2)) := ⟨ts_int, ta_int, tz_int, tu_int, ts_bool, ta_bool, tz_bool, tu_bool, ts_reeveref1_Geo, ta_reeveref1_Geo, tz_reeveref1_Geo, tp_reeveref1_Geo, tf_reeveref1_Geo_Threads, tg_reeveref1_Geo_Threads, tf_reeveref1_Geo_Slots, tg_reeveref1_Geo_Slots, tf_reeveref1_Geo_Things, tg_reeveref1_Geo_Things⟩
/-- reeve/reeveref1.Copy -/
abbrev f_reeveref1_Copy : FuncId := 66
def rc_reeveref1_Copy : RCode :=
  (.seq
    (.region [⟨some 1, .none, true, 0, .box 73 (.tmp 0)⟩,
      ⟨some 2, .none, true, 3, .assign (.const (.int .i64 0))⟩])
  (.keep [1]
  (.seq
    (.seq
      (.region [⟨some 3, .none, true, 73, .load 73 (.tmp 1)⟩,
        ⟨some 4, .none, true, 4, .call { callee := .value (.func 56), args := #[.tmp 3], argTypes := #[73] }⟩,
        ⟨some 5, .none, true, 4, .unOp .not 4 (.tmp 4)⟩])
    (.keep [1, 5]
    (.cond (.tmp 5)
      (.seq
        (.region [⟨some 2, .none, true, 3, .assign (.const (.int .i64 0))⟩])
      .ret)
      .skip)))
  (.seq
    (.region [⟨some 6, .none, false, 73, .load 73 (.tmp 1)⟩,
      ⟨some 7, .none, false, 3, .call { callee := .value (.func 70), args := #[.tmp 6], argTypes := #[73] }⟩,
      ⟨some 8, .none, false, 0, .fieldAddr 73 (.tmp 1) 1⟩,
      ⟨some 9, .none, false, 3, .load 3 (.tmp 8)⟩,
      ⟨some 10, .none, false, 3, .binOp .mul 3 (.const (.int .i64 2)) (.tmp 9) 3⟩,
      ⟨some 11, .none, false, 3, .binOp .add 3 (.tmp 7) (.tmp 10) 3⟩,
      ⟨some 12, .none, false, 0, .fieldAddr 73 (.tmp 1) 2⟩,
      ⟨some 13, .none, false, 3, .load 3 (.tmp 12)⟩,
      ⟨some 14, .none, false, 3, .binOp .mul 3 (.const (.int .i64 8)) (.tmp 13) 3⟩,
      ⟨some 15, .none, true, 3, .binOp .add 3 (.tmp 11) (.tmp 14) 3⟩,
      ⟨some 2, .none, true, 3, .assign (.tmp 15)⟩])
  .ret))))
theorem t_reeveref1_Copy : FnT Try.prog 66 rc_reeveref1_Copy [.tmp 2] 1 := ⟨⟨[], Try.f66, _, Try.func66, rfl, by kernel_rfl, by kernel_rfl, by kernel_rfl, rfl, by decide⟩, by kernel_rfl⟩
theorem y_reeveref1_Copy : (tsize Try.prog 3 = some 1) ∧ (tagg Try.prog 3 = some false) ∧ (zeroFlat Try.prog 3 = some [.int .i64 0]) ∧ (Try.prog.underlying 3 = some (.int .i64)) ∧ (tsize Try.prog 4 = some 1) ∧ (tagg Try.prog 4 = some false) ∧ (zeroFlat Try.prog 4 = some [.bool false]) ∧ (Try.prog.underlying 4 = some (.bool)) ∧ (tsize Try.prog 73 = some 3) ∧ (tagg Try.prog 73 = some true) ∧ (zeroFlat Try.prog 73 = some [.int .i64 0, .int .i64 0, .int .i64 0]) ∧ (tplaces Try.prog 73 = some [(0, 1), (1, 1), (2, 1)]) ∧ (tfield Try.prog 73 0 = some (3, 0)) ∧ (tfield' Try.prog 73 0 = some (3, 0)) ∧ (tfield Try.prog 73 1 = some (3, 1)) ∧ (tfield' Try.prog 73 1 = some (3, 1)) ∧ (tfield Try.prog 73 2 = some (3, 2)) ∧ (tfield' Try.prog 73 2 = some (3, 2)) := ⟨ts_int, ta_int, tz_int, tu_int, ts_bool, ta_bool, tz_bool, tu_bool, ts_reeveref1_Geo, ta_reeveref1_Geo, tz_reeveref1_Geo, tp_reeveref1_Geo, tf_reeveref1_Geo_Threads, tg_reeveref1_Geo_Threads, tf_reeveref1_Geo_Slots, tg_reeveref1_Geo_Slots, tf_reeveref1_Geo_Things, tg_reeveref1_Geo_Things⟩
/-- reeve/tag.all -/
abbrev f_tag_all : FuncId := 67
def rc_tag_alll0 : RCode :=
  (.seq
    (.region [⟨some 10, .none, true, 0, .binOp .lss 3 (.tmp 9) (.tmp 8) 3⟩])
  (.keep [4, 7, 8, 9, 10]
  (.seq
    (.cond (.tmp 10)
      .skip
      (.exit 0))
  (.keep [4, 7, 8, 9]
  (.seq
    (.block 1
      (.seq
        (.region [⟨some 11, .none, true, 0, .indexAddr 85 (.tmp 7) (.tmp 9)⟩,
          ⟨some 12, .none, true, 100, .load 100 (.tmp 11)⟩,
          ⟨some 6, .none, true, 0, .alloc 100⟩,
          ⟨none, .none, true, 0, .store 100 (.tmp 6) (.tmp 12)⟩])
      (.keep [4, 6, 7, 8, 9]
      (.seq
        (.seq
          (.region [⟨some 13, .none, true, 0, .fieldAddr 100 (.tmp 6) 0⟩,
            ⟨some 14, .none, true, 3, .load 3 (.tmp 13)⟩,
            ⟨some 15, .none, true, 4, .binOp .lss 3 (.tmp 14) (.const (.int .i64 0)) 3⟩,
            ⟨some 16, .none, true, 4, .move (.tmp 15)⟩,
            ⟨some 17, .some 16 false, true, 0, .fieldAddr 100 (.tmp 6) 0⟩,
            ⟨some 18, .some 16 false, true, 3, .load 3 (.tmp 17)⟩,
            ⟨some 19, .some 16 false, true, 4, .binOp .geq 3 (.tmp 18) (.const (.int .i64 64)) 3⟩,
            ⟨some 20, .none, true, 4, .pick (.tmp 16) (.const (.bool true)) (.tmp 19)⟩,
            ⟨some 21, .none, true, 4, .move (.tmp 20)⟩,
            ⟨some 22, .some 21 false, true, 0, .fieldAddr 100 (.tmp 6) 1⟩,
            ⟨some 23, .some 21 false, true, 3, .load 3 (.tmp 22)⟩,
            ⟨some 24, .some 21 false, true, 4, .binOp .lss 3 (.tmp 23) (.const (.int .i64 1)) 3⟩,
            ⟨some 25, .none, true, 4, .pick (.tmp 21) (.const (.bool true)) (.tmp 24)⟩,
            ⟨some 26, .none, true, 4, .move (.tmp 25)⟩,
            ⟨some 27, .some 26 false, true, 0, .fieldAddr 100 (.tmp 6) 1⟩,
            ⟨some 28, .some 26 false, true, 3, .load 3 (.tmp 27)⟩,
            ⟨some 29, .some 26 false, true, 0, .fieldAddr 100 (.tmp 6) 0⟩,
            ⟨some 30, .some 26 false, true, 3, .load 3 (.tmp 29)⟩,
            ⟨some 31, .some 26 false, true, 3, .binOp .sub 3 (.const (.int .i64 64)) (.tmp 30) 3⟩,
            ⟨some 32, .some 26 false, true, 4, .binOp .gtr 3 (.tmp 28) (.tmp 31) 3⟩,
            ⟨some 33, .none, true, 4, .pick (.tmp 26) (.const (.bool true)) (.tmp 32)⟩,
            ⟨some 34, .none, true, 4, .move (.tmp 33)⟩,
            ⟨some 35, .some 34 false, true, 23, .move (.tmp 4)⟩,
            ⟨some 36, .some 34 false, true, 100, .load 100 (.tmp 6)⟩,
            ⟨some 37, .some 34 false, true, 23, .call { callee := .value (.func 59), args := #[.tmp 36], argTypes := #[100] }⟩,
            ⟨some 38, .some 34 false, true, 23, .binOp .and 23 (.tmp 35) (.tmp 37) 23⟩,
            ⟨some 39, .some 34 false, true, 4, .binOp .neq 23 (.tmp 38) (.const (.int .u64 0)) 23⟩,
            ⟨some 40, .none, true, 4, .pick (.tmp 34) (.const (.bool true)) (.tmp 39)⟩])
        (.keep [4, 6, 7, 8, 9, 40]
        (.cond (.tmp 40)
          (.seq
            (.region [⟨some 2, .none, true, 23, .assign (.const (.int .u64 0))⟩,
              ⟨some 3, .none, true, 4, .assign (.const (.bool false))⟩])
          .ret)
          .skip)))
      (.region [⟨some 41, .none, true, 23, .move (.tmp 4)⟩,
        ⟨some 42, .none, true, 100, .load 100 (.tmp 6)⟩,
        ⟨some 43, .none, true, 23, .call { callee := .value (.func 59), args := #[.tmp 42], argTypes := #[100] }⟩,
        ⟨some 44, .none, true, 23, .binOp .or 23 (.tmp 41) (.tmp 43) 23⟩,
        ⟨some 4, .none, true, 23, .assign (.tmp 44)⟩])))))
  (.keep [4, 7, 8, 9]
  (.region [⟨some 45, .none, true, 3, .binOp .add 3 (.tmp 9) (.const (.int .i64 1)) 3⟩,
    ⟨some 9, .none, true, 3, .move (.tmp 45)⟩])))))))
def rc_tag_all : RCode :=
  (.seq
    (.region [⟨some 2, .none, true, 23, .assign (.const (.int .u64 0))⟩,
      ⟨some 3, .none, true, 4, .assign (.const (.bool false))⟩])
  (.keep [0]
  (.seq
    (.region [⟨some 4, .none, true, 23, .assign (.const (.int .u64 0))⟩])
  (.keep [0, 4]
  (.seq
    (.seq
      (.region [⟨some 7, .none, true, 85, .move (.tmp 0)⟩,
        ⟨some 8, .none, true, 3, .call { callee := .builtin .len, args := #[.tmp 7], argTypes := #[85] }⟩,
        ⟨some 9, .none, true, 3, .move (.const (.int .i64 0))⟩])
    (.keep [4, 7, 8, 9]
    (.block 0
      (.loop [4, 7, 8, 9] rc_tag_alll0))))
  (.seq
    (.region [⟨some 46, .none, true, 23, .move (.tmp 4)⟩,
      ⟨some 2, .none, true, 23, .assign (.tmp 46)⟩,
      ⟨some 3, .none, true, 4, .assign (.const (.bool true))⟩])
  .ret))))))
theorem t_tag_all : FnT Try.prog 67 rc_tag_all [.tmp 2, .tmp 3] 1 := ⟨⟨[], Try.f67, _, Try.func67, rfl, by kernel_rfl, by kernel_rfl, by kernel_rfl, rfl, by decide⟩, by kernel_rfl⟩
theorem y_tag_all : (tsize Try.prog 3 = some 1) ∧ (tagg Try.prog 3 = some false) ∧ (zeroFlat Try.prog 3 = some [.int .i64 0]) ∧ (Try.prog.underlying 3 = some (.int .i64)) ∧ (tsize Try.prog 4 = some 1) ∧ (tagg Try.prog 4 = some false) ∧ (zeroFlat Try.prog 4 = some [.bool false]) ∧ (Try.prog.underlying 4 = some (.bool)) ∧ (tsize Try.prog 23 = some 1) ∧ (tagg Try.prog 23 = some false) ∧ (zeroFlat Try.prog 23 = some [.int .u64 0]) ∧ (Try.prog.underlying 23 = some (.int .u64)) ∧ (tsize Try.prog 85 = some 1) ∧ (tagg Try.prog 85 = some false) ∧ (zeroFlat Try.prog 85 = some [.slice none 0 0]) ∧ (Try.prog.underlying 85 = some (.slice 100)) ∧ (tsize Try.prog 100 = some 2) ∧ (tagg Try.prog 100 = some true) ∧ (zeroFlat Try.prog 100 = some [.int .i64 0, .int .i64 0]) ∧ (tplaces Try.prog 100 = some [(0, 1), (1, 1)]) ∧ (tfield Try.prog 100 0 = some (3, 0)) ∧ (tfield' Try.prog 100 0 = some (3, 0)) ∧ (tfield Try.prog 100 1 = some (3, 1)) ∧ (tfield' Try.prog 100 1 = some (3, 1)) := ⟨ts_int, ta_int, tz_int, tu_int, ts_bool, ta_bool, tz_bool, tu_bool, ts_uint64, ta_uint64, tz_uint64, tu_uint64, ts_S_tag_Field, ta_S_tag_Field, tz_S_tag_Field, tu_S_tag_Field, ts_tag_Field, ta_tag_Field, tz_tag_Field, tp_tag_Field, tf_tag_Field_From, tg_tag_Field_From, tf_tag_Field_Len, tg_tag_Field_Len⟩
/-- reeve/geo.slotsAt -/
abbrev f_geo_slotsAt : FuncId := 68
def rc_geo_slotsAt : RCode :=
  (.seq
    (.region [⟨some 1, .none, true, 0, .box 49 (.tmp 0)⟩,
      ⟨some 2, .none, true, 3, .assign (.const (.int .i64 0))⟩])
  (.keep [1]
  (.seq
    (.region [⟨some 3, .none, true, 0, .fieldAddr 49 (.tmp 1) 0⟩,
      ⟨some 4, .none, true, 3, .load 3 (.tmp 3)⟩,
      ⟨some 5, .none, true, 3, .binOp .mul 3 (.tmp 4) (.const (.int .i64 1208)) 3⟩,
      ⟨some 6, .none, true, 3, .binOp .add 3 (.const (.int .i64 16)) (.tmp 5) 3⟩,
      ⟨some 2, .none, true, 3, .assign (.tmp 6)⟩])
  .ret)))
theorem t_geo_slotsAt : FnT Try.prog 68 rc_geo_slotsAt [.tmp 2] 1 := ⟨⟨[], Try.f68, _, Try.func68, rfl, by kernel_rfl, by kernel_rfl, by kernel_rfl, rfl, by decide⟩, by kernel_rfl⟩
theorem y_geo_slotsAt : (tsize Try.prog 3 = some 1) ∧ (tagg Try.prog 3 = some false) ∧ (zeroFlat Try.prog 3 = some [.int .i64 0]) ∧ (Try.prog.underlying 3 = some (.int .i64)) ∧ (tsize Try.prog 49 = some 3) ∧ (tagg Try.prog 49 = some true) ∧ (zeroFlat Try.prog 49 = some [.int .i64 0, .int .i64 0, .int .i64 0]) ∧ (tplaces Try.prog 49 = some [(0, 1), (1, 1), (2, 1)]) ∧ (tfield Try.prog 49 0 = some (3, 0)) ∧ (tfield' Try.prog 49 0 = some (3, 0)) ∧ (tfield Try.prog 49 1 = some (3, 1)) ∧ (tfield' Try.prog 49 1 = some (3, 1)) ∧ (tfield Try.prog 49 2 = some (3, 2)) ∧ (tfield' Try.prog 49 2 = some (3, 2)) := ⟨ts_int, ta_int, tz_int, tu_int, ts_geo_Geo, ta_geo_Geo, tz_geo_Geo, tp_geo_Geo, tf_geo_Geo_Threads, tg_geo_Geo_Threads, tf_geo_Geo_Slots, tg_geo_Geo_Slots, tf_geo_Geo_Things, tg_geo_Geo_Things⟩
/-- reeve/geo.thingsAt -/
abbrev f_geo_thingsAt : FuncId := 69
def rc_geo_thingsAt : RCode :=
  (.seq
    (.region [⟨some 1, .none, true, 0, .box 49 (.tmp 0)⟩,
      ⟨some 2, .none, true, 3, .assign (.const (.int .i64 0))⟩])
  (.keep [1]
  (.seq
    (.region [⟨some 3, .none, false, 49, .load 49 (.tmp 1)⟩,
      ⟨some 4, .none, false, 3, .call { callee := .value (.func 68), args := #[.tmp 3], argTypes := #[49] }⟩,
      ⟨some 5, .none, false, 0, .fieldAddr 49 (.tmp 1) 1⟩,
      ⟨some 6, .none, false, 3, .load 3 (.tmp 5)⟩,
      ⟨some 7, .none, false, 3, .binOp .mul 3 (.const (.int .i64 2)) (.tmp 6) 3⟩,
      ⟨some 8, .none, true, 3, .binOp .add 3 (.tmp 4) (.tmp 7) 3⟩,
      ⟨some 2, .none, true, 3, .assign (.tmp 8)⟩])
  .ret)))
theorem t_geo_thingsAt : FnT Try.prog 69 rc_geo_thingsAt [.tmp 2] 1 := ⟨⟨[], Try.f69, _, Try.func69, rfl, by kernel_rfl, by kernel_rfl, by kernel_rfl, rfl, by decide⟩, by kernel_rfl⟩
theorem y_geo_thingsAt : (tsize Try.prog 3 = some 1) ∧ (tagg Try.prog 3 = some false) ∧ (zeroFlat Try.prog 3 = some [.int .i64 0]) ∧ (Try.prog.underlying 3 = some (.int .i64)) ∧ (tsize Try.prog 49 = some 3) ∧ (tagg Try.prog 49 = some true) ∧ (zeroFlat Try.prog 49 = some [.int .i64 0, .int .i64 0, .int .i64 0]) ∧ (tplaces Try.prog 49 = some [(0, 1), (1, 1), (2, 1)]) ∧ (tfield Try.prog 49 0 = some (3, 0)) ∧ (tfield' Try.prog 49 0 = some (3, 0)) ∧ (tfield Try.prog 49 1 = some (3, 1)) ∧ (tfield' Try.prog 49 1 = some (3, 1)) ∧ (tfield Try.prog 49 2 = some (3, 2)) ∧ (tfield' Try.prog 49 2 = some (3, 2)) := ⟨ts_int, ta_int, tz_int, tu_int, ts_geo_Geo, ta_geo_Geo, tz_geo_Geo, tp_geo_Geo, tf_geo_Geo_Threads, tg_geo_Geo_Threads, tf_geo_Geo_Slots, tg_geo_Geo_Slots, tf_geo_Geo_Things, tg_geo_Geo_Things⟩
/-- reeve/reeveref1.slots -/
abbrev f_reeveref1_slots : FuncId := 70
def rc_reeveref1_slots : RCode :=
  (.seq
    (.region [⟨some 1, .none, true, 0, .box 73 (.tmp 0)⟩,
      ⟨some 2, .none, true, 3, .assign (.const (.int .i64 0))⟩])
  (.keep [1]
  (.seq
    (.region [⟨some 3, .none, false, 0, .fieldAddr 73 (.tmp 1) 0⟩,
      ⟨some 4, .none, false, 3, .load 3 (.tmp 3)⟩,
      ⟨some 5, .none, false, 3, .call { callee := .value (.func 64), args := #[], argTypes := #[] }⟩,
      ⟨some 6, .none, true, 3, .binOp .mul 3 (.tmp 4) (.tmp 5) 3⟩,
      ⟨some 7, .none, true, 3, .binOp .add 3 (.const (.int .i64 16)) (.tmp 6) 3⟩,
      ⟨some 2, .none, true, 3, .assign (.tmp 7)⟩])
  .ret)))
theorem t_reeveref1_slots : FnT Try.prog 70 rc_reeveref1_slots [.tmp 2] 1 := ⟨⟨[], Try.f70, _, Try.func70, rfl, by kernel_rfl, by kernel_rfl, by kernel_rfl, rfl, by decide⟩, by kernel_rfl⟩
theorem y_reeveref1_slots : (tsize Try.prog 3 = some 1) ∧ (tagg Try.prog 3 = some false) ∧ (zeroFlat Try.prog 3 = some [.int .i64 0]) ∧ (Try.prog.underlying 3 = some (.int .i64)) ∧ (tsize Try.prog 73 = some 3) ∧ (tagg Try.prog 73 = some true) ∧ (zeroFlat Try.prog 73 = some [.int .i64 0, .int .i64 0, .int .i64 0]) ∧ (tplaces Try.prog 73 = some [(0, 1), (1, 1), (2, 1)]) ∧ (tfield Try.prog 73 0 = some (3, 0)) ∧ (tfield' Try.prog 73 0 = some (3, 0)) ∧ (tfield Try.prog 73 1 = some (3, 1)) ∧ (tfield' Try.prog 73 1 = some (3, 1)) ∧ (tfield Try.prog 73 2 = some (3, 2)) ∧ (tfield' Try.prog 73 2 = some (3, 2)) := ⟨ts_int, ta_int, tz_int, tu_int, ts_reeveref1_Geo, ta_reeveref1_Geo, tz_reeveref1_Geo, tp_reeveref1_Geo, tf_reeveref1_Geo_Threads, tg_reeveref1_Geo_Threads, tf_reeveref1_Geo_Slots, tg_reeveref1_Geo_Slots, tf_reeveref1_Geo_Things, tg_reeveref1_Geo_Things⟩
def tab : XTab :=
  [(8, rc_reevelaw24_OpdKnown, [.tmp 0], 0),
   (9, rc_reevelaw24_OpdSays, [.tmp 8], 4),
   (10, rc_reevelaw24_OpdBack, [.tmp 8], 4),
   (11, rc_reevelaw24_OpdFirst, [.tmp 4], 2),
   (12, rc_reevelaw24_OpdTail, [.tmp 6], 3),
   (26, rc_reevelaw24_awake, [.tmp 0], 0),
   (27, rc_geo_Plain, [.cell 0 49], 0),
   (28, rc_reevelaw24_some, [.cell 0 57], 0),
   (29, rc_opd_Good, [.tmp 4], 2),
   (30, rc_opd_Put, [.tmp 4], 2),
   (31, rc_opd_Get, [.cell 4 57, .tmp 5], 2),
   (32, rc_reevelaw24_sameD, [.tmp 4], 2),
   (33, rc_reevelaw24_descOf, [.cell 2 69], 1),
   (34, rc_opd_First, [.tmp 2], 1),
   (35, rc_reeveref22_PutDesc, [.tmp 4], 2),
   (36, rc_reevelaw24_geoOf, [.cell 2 73], 1),
   (37, rc_reevelaw24_words, [.tmp 4], 2),
   (38, rc_reeveref22_GoodDesc, [.tmp 4], 2),
   (39, rc_reeveref22_First, [.tmp 2], 1),
   (40, rc_reeveref22_GetDesc, [.cell 4 69, .tmp 5], 2),
   (43, rc_tag_Put, [.tmp 4, .tmp 5], 2),
   (46, rc_tag_Get, [.tmp 4], 2),
   (50, rc_wset_Good, [.tmp 4], 2),
   (51, rc_geo_Desc, [.tmp 4, .tmp 5], 2),
   (52, rc_opd_fields, [.tmp 0], 0),
   (53, rc_reevelaw24_ownW, [.tmp 2], 1),
   (54, rc_slices_Max_S_uint64_uint64, [.tmp 2], 1),
   (55, rc_reeveref1_Desc, [.tmp 4, .tmp 5], 2),
   (56, rc_reeveref1_GoodGeo, [.tmp 2], 1),
   (57, rc_reeveref22_GoodWrites, [.tmp 4], 2),
   (58, rc_tag_Good, [.tmp 2], 1),
   (59, rc_tag_Field_mask, [.tmp 2], 1),
   (60, rc_geo_Good, [.tmp 2], 1),
   (61, rc_geo_Slot, [.tmp 4], 2),
   (62, rc_geo_Copy, [.tmp 2], 1),
   (63, rc_geo_in, [.tmp 6], 3),
   (64, rc_reeveref1_long, [.tmp 0], 0),
   (65, rc_reeveref1_Slot, [.tmp 4], 2),
   (66, rc_reeveref1_Copy, [.tmp 2], 1),
   (67, rc_tag_all, [.tmp 2, .tmp 3], 1),
   (68, rc_geo_slotsAt, [.tmp 2], 1),
   (69, rc_geo_thingsAt, [.tmp 2], 1),
   (70, rc_reeveref1_slots, [.tmp 2], 1)]
theorem tabOk : TabOk Try.prog tab :=
  .cons t_reevelaw24_OpdKnown <|
  .cons t_reevelaw24_OpdSays <|
  .cons t_reevelaw24_OpdBack <|
  .cons t_reevelaw24_OpdFirst <|
  .cons t_reevelaw24_OpdTail <|
  .cons t_reevelaw24_awake <|
  .cons t_geo_Plain <|
  .cons t_reevelaw24_some <|
  .cons t_opd_Good <|
  .cons t_opd_Put <|
  .cons t_opd_Get <|
  .cons t_reevelaw24_sameD <|
  .cons t_reevelaw24_descOf <|
  .cons t_opd_First <|
  .cons t_reeveref22_PutDesc <|
  .cons t_reevelaw24_geoOf <|
  .cons t_reevelaw24_words <|
  .cons t_reeveref22_GoodDesc <|
  .cons t_reeveref22_First <|
  .cons t_reeveref22_GetDesc <|
  .cons t_tag_Put <|
  .cons t_tag_Get <|
  .cons t_wset_Good <|
  .cons t_geo_Desc <|
  .cons t_opd_fields <|
  .cons t_reevelaw24_ownW <|
  .cons t_slices_Max_S_uint64_uint64 <|
  .cons t_reeveref1_Desc <|
  .cons t_reeveref1_GoodGeo <|
  .cons t_reeveref22_GoodWrites <|
  .cons t_tag_Good <|
  .cons t_tag_Field_mask <|
  .cons t_geo_Good <|
  .cons t_geo_Slot <|
  .cons t_geo_Copy <|
  .cons t_geo_in <|
  .cons t_reeveref1_long <|
  .cons t_reeveref1_Slot <|
  .cons t_reeveref1_Copy <|
  .cons t_tag_all <|
  .cons t_geo_slotsAt <|
  .cons t_geo_thingsAt <|
  .cons t_reeveref1_slots <| .nil

end Go.Proofs.Ytafpgojoemcgnaa.F24
