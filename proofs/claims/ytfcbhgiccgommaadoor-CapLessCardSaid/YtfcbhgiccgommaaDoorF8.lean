/- Functions of the program made ready for walking, each with its proof; facts of types. Written by gen2.py. -/
import Derived.Test.YtfcbhgiccgommaaDoorProg
import Derived.Test.YtfcbhgiccgommaaDoorAbsD
set_option linter.unusedVariables false
set_option maxRecDepth 100000
namespace Go.Proofs.YtfcbhgiccgommaaDoor.F8
open Go Go.Proofs Go.Proofs.YtfcbhgiccgommaaDoorAbs
theorem hm : Tryd.prog.follows .mixedOrders = true := by kernel_rfl
/-- internal/abi.NoEscape (without a body) -/
abbrev f_internal_abi_NoEscape : FuncId := 94
/-- internal/bytealg.MakeNoZero (without a body) -/
abbrev f_internal_bytealg_MakeNoZero : FuncId := 95
/-- internal/bytealg.CountString (without a body) -/
abbrev f_internal_bytealg_CountString : FuncId := 98
/-- internal/bytealg.IndexString (without a body) -/
abbrev f_internal_bytealg_IndexString : FuncId := 110
/-- internal/bytealg.IndexByteString (without a body) -/
abbrev f_internal_bytealg_IndexByteString : FuncId := 117
abbrev T_int : TypeId := 3
theorem ts_int : tsize Tryd.prog 3 = some 1 := by kernel_rfl
theorem tb_int : tbytes Tryd.prog 3 = some 8 := by kernel_rfl
theorem ta_int : tagg Tryd.prog 3 = some false := by kernel_rfl
theorem tz_int : zeroFlat Tryd.prog 3 = some [.int .i64 0] := by kernel_rfl
theorem tv_int : tzero Tryd.prog 3 = some (.int .i64 0) := by kernel_rfl
theorem tu_int : Tryd.prog.underlying 3 = some (.int .i64) := by kernel_rfl
abbrev T_bool : TypeId := 4
theorem ts_bool : tsize Tryd.prog 4 = some 1 := by kernel_rfl
theorem tb_bool : tbytes Tryd.prog 4 = some 1 := by kernel_rfl
theorem ta_bool : tagg Tryd.prog 4 = some false := by kernel_rfl
theorem tz_bool : zeroFlat Tryd.prog 4 = some [.bool false] := by kernel_rfl
theorem tv_bool : tzero Tryd.prog 4 = some (.bool false) := by kernel_rfl
theorem tu_bool : Tryd.prog.underlying 4 = some (.bool) := by kernel_rfl
abbrev T_uint64 : TypeId := 27
theorem ts_uint64 : tsize Tryd.prog 27 = some 1 := by kernel_rfl
theorem tb_uint64 : tbytes Tryd.prog 27 = some 8 := by kernel_rfl
theorem ta_uint64 : tagg Tryd.prog 27 = some false := by kernel_rfl
theorem tz_uint64 : zeroFlat Tryd.prog 27 = some [.int .u64 0] := by kernel_rfl
theorem tv_uint64 : tzero Tryd.prog 27 = some (.int .u64 0) := by kernel_rfl
theorem tu_uint64 : Tryd.prog.underlying 27 = some (.int .u64) := by kernel_rfl
abbrev T_cap_Cap : TypeId := 34
theorem te_cap_Cap : eqOk Tryd.prog 34 = some [.int .i64, .int .i64, .int .i64, .int .i64] := by kernel_rfl
theorem ts_cap_Cap : tsize Tryd.prog 34 = some 4 := by kernel_rfl
theorem tb_cap_Cap : tbytes Tryd.prog 34 = some 32 := by kernel_rfl
theorem ta_cap_Cap : tagg Tryd.prog 34 = some true := by kernel_rfl
theorem tz_cap_Cap : zeroFlat Tryd.prog 34 = some [.int .i64 0, .int .i64 0, .int .i64 0, .int .i64 0] := by kernel_rfl
theorem tv_cap_Cap : tzero Tryd.prog 34 = some (.agg #[.int .i64 0, .int .i64 0, .int .i64 0, .int .i64 0]) := by kernel_rfl
theorem tp_cap_Cap : tplaces Tryd.prog 34 = some [(0, 1), (1, 1), (2, 1), (3, 1)] := by kernel_rfl
theorem tf_cap_Cap_Type : tfield Tryd.prog 34 0 = some (3, 0) := by kernel_rfl
theorem tg_cap_Cap_Type : tfield' Tryd.prog 34 0 = some (3, 0) := by kernel_rfl
theorem tf_cap_Cap_Thing : tfield Tryd.prog 34 1 = some (3, 1) := by kernel_rfl
theorem tg_cap_Cap_Thing : tfield' Tryd.prog 34 1 = some (3, 1) := by kernel_rfl
theorem tf_cap_Cap_Rights : tfield Tryd.prog 34 2 = some (3, 2) := by kernel_rfl
theorem tg_cap_Cap_Rights : tfield' Tryd.prog 34 2 = some (3, 2) := by kernel_rfl
theorem tf_cap_Cap_Badge : tfield Tryd.prog 34 3 = some (3, 3) := by kernel_rfl
theorem tg_cap_Cap_Badge : tfield' Tryd.prog 34 3 = some (3, 3) := by kernel_rfl
abbrev T_string : TypeId := 9
theorem ts_string : tsize Tryd.prog 9 = some 1 := by kernel_rfl
theorem tb_string : tbytes Tryd.prog 9 = some 16 := by kernel_rfl
theorem ta_string : tagg Tryd.prog 9 = some false := by kernel_rfl
theorem tz_string : zeroFlat Tryd.prog 9 = some [.string ByteArray.empty] := by kernel_rfl
theorem tv_string : tzero Tryd.prog 9 = some (.string ByteArray.empty) := by kernel_rfl
theorem tu_string : Tryd.prog.underlying 9 = some (.string) := by kernel_rfl
abbrev T_S_cap_Cap : TypeId := 42
theorem ts_S_cap_Cap : tsize Tryd.prog 42 = some 1 := by kernel_rfl
theorem tb_S_cap_Cap : tbytes Tryd.prog 42 = some 24 := by kernel_rfl
theorem ta_S_cap_Cap : tagg Tryd.prog 42 = some false := by kernel_rfl
theorem tz_S_cap_Cap : zeroFlat Tryd.prog 42 = some [.slice none 0 0] := by kernel_rfl
theorem tv_S_cap_Cap : tzero Tryd.prog 42 = some (.slice none 0 0) := by kernel_rfl
theorem tu_S_cap_Cap : Tryd.prog.underlying 42 = some (.slice 34) := by kernel_rfl
abbrev T_api_Errno : TypeId := 43
theorem ts_api_Errno : tsize Tryd.prog 43 = some 1 := by kernel_rfl
theorem tb_api_Errno : tbytes Tryd.prog 43 = some 8 := by kernel_rfl
theorem ta_api_Errno : tagg Tryd.prog 43 = some false := by kernel_rfl
theorem tz_api_Errno : zeroFlat Tryd.prog 43 = some [.int .i64 0] := by kernel_rfl
theorem tv_api_Errno : tzero Tryd.prog 43 = some (.int .i64 0) := by kernel_rfl
theorem tu_api_Errno : Tryd.prog.underlying 43 = some (.int .i64) := by kernel_rfl
abbrev T_S_uint64 : TypeId := 66
theorem ts_S_uint64 : tsize Tryd.prog 66 = some 1 := by kernel_rfl
theorem tb_S_uint64 : tbytes Tryd.prog 66 = some 24 := by kernel_rfl
theorem ta_S_uint64 : tagg Tryd.prog 66 = some false := by kernel_rfl
theorem tz_S_uint64 : zeroFlat Tryd.prog 66 = some [.slice none 0 0] := by kernel_rfl
theorem tv_S_uint64 : tzero Tryd.prog 66 = some (.slice none 0 0) := by kernel_rfl
theorem tu_S_uint64 : Tryd.prog.underlying 66 = some (.slice 27) := by kernel_rfl
abbrev T_S_tag_Field : TypeId := 78
abbrev T_tag_Field : TypeId := 100
theorem te_tag_Field : eqOk Tryd.prog 100 = some [.int .i64, .int .i64] := by kernel_rfl
theorem ts_tag_Field : tsize Tryd.prog 100 = some 2 := by kernel_rfl
theorem tb_tag_Field : tbytes Tryd.prog 100 = some 16 := by kernel_rfl
theorem ta_tag_Field : tagg Tryd.prog 100 = some true := by kernel_rfl
theorem tz_tag_Field : zeroFlat Tryd.prog 100 = some [.int .i64 0, .int .i64 0] := by kernel_rfl
theorem tv_tag_Field : tzero Tryd.prog 100 = some (.agg #[.int .i64 0, .int .i64 0]) := by kernel_rfl
theorem tp_tag_Field : tplaces Tryd.prog 100 = some [(0, 1), (1, 1)] := by kernel_rfl
theorem tf_tag_Field_From : tfield Tryd.prog 100 0 = some (3, 0) := by kernel_rfl
theorem tg_tag_Field_From : tfield' Tryd.prog 100 0 = some (3, 0) := by kernel_rfl
theorem tf_tag_Field_Len : tfield Tryd.prog 100 1 = some (3, 1) := by kernel_rfl
theorem tg_tag_Field_Len : tfield' Tryd.prog 100 1 = some (3, 1) := by kernel_rfl
theorem ts_S_tag_Field : tsize Tryd.prog 78 = some 1 := by kernel_rfl
theorem tb_S_tag_Field : tbytes Tryd.prog 78 = some 24 := by kernel_rfl
theorem ta_S_tag_Field : tagg Tryd.prog 78 = some false := by kernel_rfl
theorem tz_S_tag_Field : zeroFlat Tryd.prog 78 = some [.slice none 0 0] := by kernel_rfl
theorem tv_S_tag_Field : tzero Tryd.prog 78 = some (.slice none 0 0) := by kernel_rfl
theorem tu_S_tag_Field : Tryd.prog.underlying 78 = some (.slice 100) := by kernel_rfl
abbrev T_S_string : TypeId := 65
theorem ts_S_string : tsize Tryd.prog 65 = some 1 := by kernel_rfl
theorem tb_S_string : tbytes Tryd.prog 65 = some 24 := by kernel_rfl
theorem ta_S_string : tagg Tryd.prog 65 = some false := by kernel_rfl
theorem tz_S_string : zeroFlat Tryd.prog 65 = some [.slice none 0 0] := by kernel_rfl
theorem tv_S_string : tzero Tryd.prog 65 = some (.slice none 0 0) := by kernel_rfl
theorem tu_S_string : Tryd.prog.underlying 65 = some (.slice 9) := by kernel_rfl
abbrev T_uint8 : TypeId := 5
theorem ts_uint8 : tsize Tryd.prog 5 = some 1 := by kernel_rfl
theorem tb_uint8 : tbytes Tryd.prog 5 = some 1 := by kernel_rfl
theorem ta_uint8 : tagg Tryd.prog 5 = some false := by kernel_rfl
theorem tz_uint8 : zeroFlat Tryd.prog 5 = some [.int .u8 0] := by kernel_rfl
theorem tv_uint8 : tzero Tryd.prog 5 = some (.int .u8 0) := by kernel_rfl
theorem tu_uint8 : Tryd.prog.underlying 5 = some (.int .u8) := by kernel_rfl
abbrev T_interface : TypeId := 20
theorem ts_interface : tsize Tryd.prog 20 = some 1 := by kernel_rfl
theorem tb_interface : tbytes Tryd.prog 20 = some 16 := by kernel_rfl
theorem ta_interface : tagg Tryd.prog 20 = some false := by kernel_rfl
theorem tz_interface : zeroFlat Tryd.prog 20 = some [.nilIface] := by kernel_rfl
theorem tv_interface : tzero Tryd.prog 20 = some (.nilIface) := by kernel_rfl
abbrev T_P_strings_Builder : TypeId := 92
theorem ts_P_strings_Builder : tsize Tryd.prog 92 = some 1 := by kernel_rfl
theorem tb_P_strings_Builder : tbytes Tryd.prog 92 = some 8 := by kernel_rfl
theorem ta_P_strings_Builder : tagg Tryd.prog 92 = some false := by kernel_rfl
theorem tz_P_strings_Builder : zeroFlat Tryd.prog 92 = some [.pointer none] := by kernel_rfl
theorem tv_P_strings_Builder : tzero Tryd.prog 92 = some (.pointer none) := by kernel_rfl
theorem tu_P_strings_Builder : Tryd.prog.underlying 92 = some (.pointer 95) := by kernel_rfl
abbrev T_S_uint8 : TypeId := 93
theorem ts_S_uint8 : tsize Tryd.prog 93 = some 1 := by kernel_rfl
theorem tb_S_uint8 : tbytes Tryd.prog 93 = some 24 := by kernel_rfl
theorem ta_S_uint8 : tagg Tryd.prog 93 = some false := by kernel_rfl
theorem tz_S_uint8 : zeroFlat Tryd.prog 93 = some [.slice none 0 0] := by kernel_rfl
theorem tv_S_uint8 : tzero Tryd.prog 93 = some (.slice none 0 0) := by kernel_rfl
theorem tu_S_uint8 : Tryd.prog.underlying 93 = some (.slice 5) := by kernel_rfl
abbrev T_strings_Builder : TypeId := 95
theorem ts_strings_Builder : tsize Tryd.prog 95 = some 2 := by kernel_rfl
theorem tb_strings_Builder : tbytes Tryd.prog 95 = some 32 := by kernel_rfl
theorem ta_strings_Builder : tagg Tryd.prog 95 = some true := by kernel_rfl
theorem tz_strings_Builder : zeroFlat Tryd.prog 95 = some [.pointer none, .slice none 0 0] := by kernel_rfl
theorem tv_strings_Builder : tzero Tryd.prog 95 = some (.agg #[.pointer none, .slice none 0 0]) := by kernel_rfl
theorem tp_strings_Builder : tplaces Tryd.prog 95 = some [(0, 1), (1, 1)] := by kernel_rfl
theorem tf_strings_Builder_addr : tfield Tryd.prog 95 0 = some (92, 0) := by kernel_rfl
theorem tg_strings_Builder_addr : tfield' Tryd.prog 95 0 = some (92, 0) := by kernel_rfl
theorem tf_strings_Builder_buf : tfield Tryd.prog 95 1 = some (93, 1) := by kernel_rfl
theorem tg_strings_Builder_buf : tfield' Tryd.prog 95 1 = some (93, 1) := by kernel_rfl
abbrev T_int32 : TypeId := 21
theorem ts_int32 : tsize Tryd.prog 21 = some 1 := by kernel_rfl
theorem tb_int32 : tbytes Tryd.prog 21 = some 4 := by kernel_rfl
theorem ta_int32 : tagg Tryd.prog 21 = some false := by kernel_rfl
theorem tz_int32 : zeroFlat Tryd.prog 21 = some [.int .i32 0] := by kernel_rfl
theorem tv_int32 : tzero Tryd.prog 21 = some (.int .i32 0) := by kernel_rfl
theorem tu_int32 : Tryd.prog.underlying 21 = some (.int .i32) := by kernel_rfl
abbrev T_int64 : TypeId := 2
theorem ts_int64 : tsize Tryd.prog 2 = some 1 := by kernel_rfl
theorem tb_int64 : tbytes Tryd.prog 2 = some 8 := by kernel_rfl
theorem ta_int64 : tagg Tryd.prog 2 = some false := by kernel_rfl
theorem tz_int64 : zeroFlat Tryd.prog 2 = some [.int .i64 0] := by kernel_rfl
theorem tv_int64 : tzero Tryd.prog 2 = some (.int .i64 0) := by kernel_rfl
theorem tu_int64 : Tryd.prog.underlying 2 = some (.int .i64) := by kernel_rfl
abbrev T_error : TypeId := 88
theorem ts_error : tsize Tryd.prog 88 = some 1 := by kernel_rfl
theorem tb_error : tbytes Tryd.prog 88 = some 16 := by kernel_rfl
theorem ta_error : tagg Tryd.prog 88 = some false := by kernel_rfl
theorem tz_error : zeroFlat Tryd.prog 88 = some [.nilIface] := by kernel_rfl
theorem tv_error : tzero Tryd.prog 88 = some (.nilIface) := by kernel_rfl
abbrev T_P_uint8 : TypeId := 107
theorem ts_P_uint8 : tsize Tryd.prog 107 = some 1 := by kernel_rfl
theorem tb_P_uint8 : tbytes Tryd.prog 107 = some 8 := by kernel_rfl
theorem ta_P_uint8 : tagg Tryd.prog 107 = some false := by kernel_rfl
theorem tz_P_uint8 : zeroFlat Tryd.prog 107 = some [.pointer none] := by kernel_rfl
theorem tv_P_uint8 : tzero Tryd.prog 107 = some (.pointer none) := by kernel_rfl
theorem tu_P_uint8 : Tryd.prog.underlying 107 = some (.pointer 5) := by kernel_rfl
abbrev T_A24_uint8 : TypeId := 116
theorem te_A24_uint8 : eqOk Tryd.prog 116 = some [.int .u8, .int .u8, .int .u8, .int .u8, .int .u8, .int .u8, .int .u8, .int .u8, .int .u8, .int .u8, .int .u8, .int .u8, .int .u8, .int .u8, .int .u8, .int .u8, .int .u8, .int .u8, .int .u8, .int .u8, .int .u8, .int .u8, .int .u8, .int .u8] := by kernel_rfl
theorem ts_A24_uint8 : tsize Tryd.prog 116 = some 24 := by kernel_rfl
theorem tb_A24_uint8 : tbytes Tryd.prog 116 = some 24 := by kernel_rfl
theorem ta_A24_uint8 : tagg Tryd.prog 116 = some true := by kernel_rfl
theorem tz_A24_uint8 : zeroFlat Tryd.prog 116 = some [.int .u8 0, .int .u8 0, .int .u8 0, .int .u8 0, .int .u8 0, .int .u8 0, .int .u8 0, .int .u8 0, .int .u8 0, .int .u8 0, .int .u8 0, .int .u8 0, .int .u8 0, .int .u8 0, .int .u8 0, .int .u8 0, .int .u8 0, .int .u8 0, .int .u8 0, .int .u8 0, .int .u8 0, .int .u8 0, .int .u8 0, .int .u8 0] := by kernel_rfl
theorem tv_A24_uint8 : tzero Tryd.prog 116 = some (.agg #[.int .u8 0, .int .u8 0, .int .u8 0, .int .u8 0, .int .u8 0, .int .u8 0, .int .u8 0, .int .u8 0, .int .u8 0, .int .u8 0, .int .u8 0, .int .u8 0, .int .u8 0, .int .u8 0, .int .u8 0, .int .u8 0, .int .u8 0, .int .u8 0, .int .u8 0, .int .u8 0, .int .u8 0, .int .u8 0, .int .u8 0, .int .u8 0]) := by kernel_rfl
theorem tu_A24_uint8 : Tryd.prog.underlying 116 = some (.array 24 5) := by kernel_rfl
abbrev T_A20_uint64 : TypeId := 135
theorem te_A20_uint64 : eqOk Tryd.prog 135 = some [.int .u64, .int .u64, .int .u64, .int .u64, .int .u64, .int .u64, .int .u64, .int .u64, .int .u64, .int .u64, .int .u64, .int .u64, .int .u64, .int .u64, .int .u64, .int .u64, .int .u64, .int .u64, .int .u64, .int .u64] := by kernel_rfl
theorem ts_A20_uint64 : tsize Tryd.prog 135 = some 20 := by kernel_rfl
theorem tb_A20_uint64 : tbytes Tryd.prog 135 = some 160 := by kernel_rfl
theorem ta_A20_uint64 : tagg Tryd.prog 135 = some true := by kernel_rfl
theorem tz_A20_uint64 : zeroFlat Tryd.prog 135 = some [.int .u64 0, .int .u64 0, .int .u64 0, .int .u64 0, .int .u64 0, .int .u64 0, .int .u64 0, .int .u64 0, .int .u64 0, .int .u64 0, .int .u64 0, .int .u64 0, .int .u64 0, .int .u64 0, .int .u64 0, .int .u64 0, .int .u64 0, .int .u64 0, .int .u64 0, .int .u64 0] := by kernel_rfl
theorem tv_A20_uint64 : tzero Tryd.prog 135 = some (.agg #[.int .u64 0, .int .u64 0, .int .u64 0, .int .u64 0, .int .u64 0, .int .u64 0, .int .u64 0, .int .u64 0, .int .u64 0, .int .u64 0, .int .u64 0, .int .u64 0, .int .u64 0, .int .u64 0, .int .u64 0, .int .u64 0, .int .u64 0, .int .u64 0, .int .u64 0, .int .u64 0]) := by kernel_rfl
theorem tu_A20_uint64 : Tryd.prog.underlying 135 = some (.array 20 27) := by kernel_rfl
abbrev T_uint32 : TypeId := 136
theorem ts_uint32 : tsize Tryd.prog 136 = some 1 := by kernel_rfl
theorem tb_uint32 : tbytes Tryd.prog 136 = some 4 := by kernel_rfl
theorem ta_uint32 : tagg Tryd.prog 136 = some false := by kernel_rfl
theorem tz_uint32 : zeroFlat Tryd.prog 136 = some [.int .u32 0] := by kernel_rfl
theorem tv_uint32 : tzero Tryd.prog 136 = some (.int .u32 0) := by kernel_rfl
theorem tu_uint32 : Tryd.prog.underlying 136 = some (.int .u32) := by kernel_rfl
abbrev T_uint : TypeId := 85
theorem ts_uint : tsize Tryd.prog 85 = some 1 := by kernel_rfl
theorem tb_uint : tbytes Tryd.prog 85 = some 8 := by kernel_rfl
theorem ta_uint : tagg Tryd.prog 85 = some false := by kernel_rfl
theorem tz_uint : zeroFlat Tryd.prog 85 = some [.int .u64 0] := by kernel_rfl
theorem tv_uint : tzero Tryd.prog 85 = some (.int .u64 0) := by kernel_rfl
theorem tu_uint : Tryd.prog.underlying 85 = some (.int .u64) := by kernel_rfl
abbrev T_A65_uint8 : TypeId := 137
theorem ts_A65_uint8 : tsize Tryd.prog 137 = some 65 := by kernel_rfl
theorem tb_A65_uint8 : tbytes Tryd.prog 137 = some 65 := by kernel_rfl
theorem ta_A65_uint8 : tagg Tryd.prog 137 = some true := by kernel_rfl
theorem tu_A65_uint8 : Tryd.prog.underlying 137 = some (.array 65 5) := by kernel_rfl
abbrev T_A32_uint8 : TypeId := 151
theorem te_A32_uint8 : eqOk Tryd.prog 151 = some [.int .u8, .int .u8, .int .u8, .int .u8, .int .u8, .int .u8, .int .u8, .int .u8, .int .u8, .int .u8, .int .u8, .int .u8, .int .u8, .int .u8, .int .u8, .int .u8, .int .u8, .int .u8, .int .u8, .int .u8, .int .u8, .int .u8, .int .u8, .int .u8, .int .u8, .int .u8, .int .u8, .int .u8, .int .u8, .int .u8, .int .u8, .int .u8] := by kernel_rfl
theorem ts_A32_uint8 : tsize Tryd.prog 151 = some 32 := by kernel_rfl
theorem tb_A32_uint8 : tbytes Tryd.prog 151 = some 32 := by kernel_rfl
theorem ta_A32_uint8 : tagg Tryd.prog 151 = some true := by kernel_rfl
theorem tz_A32_uint8 : zeroFlat Tryd.prog 151 = some [.int .u8 0, .int .u8 0, .int .u8 0, .int .u8 0, .int .u8 0, .int .u8 0, .int .u8 0, .int .u8 0, .int .u8 0, .int .u8 0, .int .u8 0, .int .u8 0, .int .u8 0, .int .u8 0, .int .u8 0, .int .u8 0, .int .u8 0, .int .u8 0, .int .u8 0, .int .u8 0, .int .u8 0, .int .u8 0, .int .u8 0, .int .u8 0, .int .u8 0, .int .u8 0, .int .u8 0, .int .u8 0, .int .u8 0, .int .u8 0, .int .u8 0, .int .u8 0] := by kernel_rfl
theorem tv_A32_uint8 : tzero Tryd.prog 151 = some (.agg #[.int .u8 0, .int .u8 0, .int .u8 0, .int .u8 0, .int .u8 0, .int .u8 0, .int .u8 0, .int .u8 0, .int .u8 0, .int .u8 0, .int .u8 0, .int .u8 0, .int .u8 0, .int .u8 0, .int .u8 0, .int .u8 0, .int .u8 0, .int .u8 0, .int .u8 0, .int .u8 0, .int .u8 0, .int .u8 0, .int .u8 0, .int .u8 0, .int .u8 0, .int .u8 0, .int .u8 0, .int .u8 0, .int .u8 0, .int .u8 0, .int .u8 0, .int .u8 0]) := by kernel_rfl
theorem tu_A32_uint8 : Tryd.prog.underlying 151 = some (.array 32 5) := by kernel_rfl
abbrev T_A64_uint8 : TypeId := 152
theorem ts_A64_uint8 : tsize Tryd.prog 152 = some 64 := by kernel_rfl
theorem tb_A64_uint8 : tbytes Tryd.prog 152 = some 64 := by kernel_rfl
theorem ta_A64_uint8 : tagg Tryd.prog 152 = some true := by kernel_rfl
theorem tu_A64_uint8 : Tryd.prog.underlying 152 = some (.array 64 5) := by kernel_rfl
theorem beq_cap_Cap : ∀ (xo yo : Operand) (xs ys : List Value), fitsB [.int .i64, .int .i64, .int .i64, .int .i64] xs = true → fitsB [.int .i64, .int .i64, .int .i64, .int .i64] ys = true → aBin Tryd.prog .eql 34 xo yo (.agg xs.toArray) (.agg ys.toArray) = some (.bool (cellsEq xs ys)) := fun _ _ _ _ hx hy => bin_eql_agg te_cap_Cap ta_cap_Cap hx hy
theorem bne_cap_Cap : ∀ (xo yo : Operand) (xs ys : List Value), fitsB [.int .i64, .int .i64, .int .i64, .int .i64] xs = true → fitsB [.int .i64, .int .i64, .int .i64, .int .i64] ys = true → aBin Tryd.prog .neq 34 xo yo (.agg xs.toArray) (.agg ys.toArray) = some (.bool (!cellsEq xs ys)) := fun _ _ _ _ hx hy => bin_neq_agg te_cap_Cap ta_cap_Cap hx hy
theorem bs_cap_Cap : ∀ (ty : TypeId) (ev : Operand → Value) (g : AMem) (n : Nat) (parts : Array (Nat × Operand)), aOp Tryd.prog ty ev g n (.build 34 parts) = (fillP [(0, 1), (1, 1), (2, 1), (3, 1)] [.int .i64 0, .int .i64 0, .int .i64 0, .int .i64 0] (parts.toList.map fun p => (p.1, ev p.2))).map fun cs => (.agg cs.toArray, .none) := aOp_buildS tz_cap_Cap tp_cap_Cap
theorem bl_S_cap_Cap : ∀ (ty : TypeId) (ev : Operand → Value) (g : AMem) (n : Nat) (len : Nat) (parts : Array (Nat × Operand)), len * 4 ≤ 16777216 → aOp Tryd.prog ty ev g n (.buildSlice 42 len parts) = (fillS 4 (zeroRow [.int .i64 0, .int .i64 0, .int .i64 0, .int .i64 0] len) (parts.toList.map fun p => (p.1, ev p.2))).map fun cs => (.slice (some ⟨n, 0, none⟩) len 4, .new (.row cs true)) := fun ty ev g n len parts hb => aOp_buildL tu_S_cap_Cap tz_cap_Cap ts_cap_Cap rfl ty ev g n len parts hb
theorem ap_S_cap_Cap : ∀ (g : AMem) (n : Nat) (s x : Value), aAppend Tryd.prog g n 42 s x = appR g n 3 32 s (aRead g 4 x) := inst_append tu_S_cap_Cap ts_cap_Cap tb_cap_Cap tv_cap_Cap rfl
theorem mk_S_cap_Cap : ∀ (n : Nat) (k k' : IntKind) (l c : Int), aMake Tryd.prog n 42 (.int k l) (.int k' c) = if 0 ≤ l ∧ l ≤ c ∧ c ≤ 70368744177664 ∧ 32 * c.toNat ≤ 70368744177664 then some (.slice (some ⟨n, 0, none⟩) l.toNat 4, .new (.row (zeroRow [.int .i64 0, .int .i64 0, .int .i64 0, .int .i64 0] l.toNat) true)) else none := inst_make tu_S_cap_Cap ts_cap_Cap tb_cap_Cap tv_cap_Cap rfl rfl
theorem sl_S_cap_Cap : ∀ (ty : TypeId) (ev : Operand → Value) (g : AMem) (n : Nat) (x : Operand) (lo hi : Option Operand), aOp Tryd.prog ty ev g n (.slice 42 x lo hi none) = (slR 4 (ev x) (lo.map ev) (hi.map ev)).map fun v => (v, .none) := aOp_sliceS tu_S_cap_Cap ts_cap_Cap
theorem cp_S_cap_Cap : ∀ (g : AMem) (d s : Value), aCopy Tryd.prog g 42 d s = cpR g 4 d (aRead g 4 s) := aCopy_eq tu_S_cap_Cap ts_cap_Cap
theorem bl_S_uint64 : ∀ (ty : TypeId) (ev : Operand → Value) (g : AMem) (n : Nat) (len : Nat) (parts : Array (Nat × Operand)), len * 1 ≤ 16777216 → aOp Tryd.prog ty ev g n (.buildSlice 66 len parts) = (fillS 1 (zeroRow [.int .u64 0] len) (parts.toList.map fun p => (p.1, ev p.2))).map fun cs => (.slice (some ⟨n, 0, none⟩) len 1, .new (.row cs true)) := fun ty ev g n len parts hb => aOp_buildL tu_S_uint64 tz_uint64 ts_uint64 rfl ty ev g n len parts hb
theorem ap_S_uint64 : ∀ (g : AMem) (n : Nat) (s x : Value), aAppend Tryd.prog g n 66 s x = appR g n 0 8 s (aRead g 1 x) := inst_append tu_S_uint64 ts_uint64 tb_uint64 tv_uint64 rfl
theorem mk_S_uint64 : ∀ (n : Nat) (k k' : IntKind) (l c : Int), aMake Tryd.prog n 66 (.int k l) (.int k' c) = if 0 ≤ l ∧ l ≤ c ∧ c ≤ 70368744177664 ∧ 8 * c.toNat ≤ 70368744177664 then some (.slice (some ⟨n, 0, none⟩) l.toNat 1, .new (.row (zeroRow [.int .u64 0] l.toNat) true)) else none := inst_make tu_S_uint64 ts_uint64 tb_uint64 tv_uint64 rfl rfl
theorem sl_S_uint64 : ∀ (ty : TypeId) (ev : Operand → Value) (g : AMem) (n : Nat) (x : Operand) (lo hi : Option Operand), aOp Tryd.prog ty ev g n (.slice 66 x lo hi none) = (slR 1 (ev x) (lo.map ev) (hi.map ev)).map fun v => (v, .none) := aOp_sliceS tu_S_uint64 ts_uint64
theorem cp_S_uint64 : ∀ (g : AMem) (d s : Value), aCopy Tryd.prog g 66 d s = cpR g 1 d (aRead g 1 s) := aCopy_eq tu_S_uint64 ts_uint64
theorem beq_tag_Field : ∀ (xo yo : Operand) (xs ys : List Value), fitsB [.int .i64, .int .i64] xs = true → fitsB [.int .i64, .int .i64] ys = true → aBin Tryd.prog .eql 100 xo yo (.agg xs.toArray) (.agg ys.toArray) = some (.bool (cellsEq xs ys)) := fun _ _ _ _ hx hy => bin_eql_agg te_tag_Field ta_tag_Field hx hy
theorem bne_tag_Field : ∀ (xo yo : Operand) (xs ys : List Value), fitsB [.int .i64, .int .i64] xs = true → fitsB [.int .i64, .int .i64] ys = true → aBin Tryd.prog .neq 100 xo yo (.agg xs.toArray) (.agg ys.toArray) = some (.bool (!cellsEq xs ys)) := fun _ _ _ _ hx hy => bin_neq_agg te_tag_Field ta_tag_Field hx hy
theorem bs_tag_Field : ∀ (ty : TypeId) (ev : Operand → Value) (g : AMem) (n : Nat) (parts : Array (Nat × Operand)), aOp Tryd.prog ty ev g n (.build 100 parts) = (fillP [(0, 1), (1, 1)] [.int .i64 0, .int .i64 0] (parts.toList.map fun p => (p.1, ev p.2))).map fun cs => (.agg cs.toArray, .none) := aOp_buildS tz_tag_Field tp_tag_Field
theorem bl_S_tag_Field : ∀ (ty : TypeId) (ev : Operand → Value) (g : AMem) (n : Nat) (len : Nat) (parts : Array (Nat × Operand)), len * 2 ≤ 16777216 → aOp Tryd.prog ty ev g n (.buildSlice 78 len parts) = (fillS 2 (zeroRow [.int .i64 0, .int .i64 0] len) (parts.toList.map fun p => (p.1, ev p.2))).map fun cs => (.slice (some ⟨n, 0, none⟩) len 2, .new (.row cs true)) := fun ty ev g n len parts hb => aOp_buildL tu_S_tag_Field tz_tag_Field ts_tag_Field rfl ty ev g n len parts hb
theorem ap_S_tag_Field : ∀ (g : AMem) (n : Nat) (s x : Value), aAppend Tryd.prog g n 78 s x = appR g n 1 16 s (aRead g 2 x) := inst_append tu_S_tag_Field ts_tag_Field tb_tag_Field tv_tag_Field rfl
theorem mk_S_tag_Field : ∀ (n : Nat) (k k' : IntKind) (l c : Int), aMake Tryd.prog n 78 (.int k l) (.int k' c) = if 0 ≤ l ∧ l ≤ c ∧ c ≤ 70368744177664 ∧ 16 * c.toNat ≤ 70368744177664 then some (.slice (some ⟨n, 0, none⟩) l.toNat 2, .new (.row (zeroRow [.int .i64 0, .int .i64 0] l.toNat) true)) else none := inst_make tu_S_tag_Field ts_tag_Field tb_tag_Field tv_tag_Field rfl rfl
theorem sl_S_tag_Field : ∀ (ty : TypeId) (ev : Operand → Value) (g : AMem) (n : Nat) (x : Operand) (lo hi : Option Operand), aOp Tryd.prog ty ev g n (.slice 78 x lo hi none) = (slR 2 (ev x) (lo.map ev) (hi.map ev)).map fun v => (v, .none) := aOp_sliceS tu_S_tag_Field ts_tag_Field
theorem cp_S_tag_Field : ∀ (g : AMem) (d s : Value), aCopy Tryd.prog g 78 d s = cpR g 2 d (aRead g 2 s) := aCopy_eq tu_S_tag_Field ts_tag_Field
theorem bl_S_string : ∀ (ty : TypeId) (ev : Operand → Value) (g : AMem) (n : Nat) (len : Nat) (parts : Array (Nat × Operand)), len * 1 ≤ 16777216 → aOp Tryd.prog ty ev g n (.buildSlice 65 len parts) = (fillS 1 (zeroRow [.string ByteArray.empty] len) (parts.toList.map fun p => (p.1, ev p.2))).map fun cs => (.slice (some ⟨n, 0, none⟩) len 1, .new (.row cs true)) := fun ty ev g n len parts hb => aOp_buildL tu_S_string tz_string ts_string rfl ty ev g n len parts hb
theorem ap_S_string : ∀ (g : AMem) (n : Nat) (s x : Value), aAppend Tryd.prog g n 65 s x = appR g n 0 16 s (aRead g 1 x) := inst_append tu_S_string ts_string tb_string tv_string rfl
theorem mk_S_string : ∀ (n : Nat) (k k' : IntKind) (l c : Int), aMake Tryd.prog n 65 (.int k l) (.int k' c) = if 0 ≤ l ∧ l ≤ c ∧ c ≤ 70368744177664 ∧ 16 * c.toNat ≤ 70368744177664 then some (.slice (some ⟨n, 0, none⟩) l.toNat 1, .new (.row (zeroRow [.string ByteArray.empty] l.toNat) true)) else none := inst_make tu_S_string ts_string tb_string tv_string rfl rfl
theorem sl_S_string : ∀ (ty : TypeId) (ev : Operand → Value) (g : AMem) (n : Nat) (x : Operand) (lo hi : Option Operand), aOp Tryd.prog ty ev g n (.slice 65 x lo hi none) = (slR 1 (ev x) (lo.map ev) (hi.map ev)).map fun v => (v, .none) := aOp_sliceS tu_S_string ts_string
theorem cp_S_string : ∀ (g : AMem) (d s : Value), aCopy Tryd.prog g 65 d s = cpR g 1 d (aRead g 1 s) := aCopy_eq tu_S_string ts_string
theorem bl_S_uint8 : ∀ (ty : TypeId) (ev : Operand → Value) (g : AMem) (n : Nat) (len : Nat) (parts : Array (Nat × Operand)), len * 1 ≤ 16777216 → aOp Tryd.prog ty ev g n (.buildSlice 93 len parts) = (fillS 1 (zeroRow [.int .u8 0] len) (parts.toList.map fun p => (p.1, ev p.2))).map fun cs => (.slice (some ⟨n, 0, none⟩) len 1, .new (.row cs true)) := fun ty ev g n len parts hb => aOp_buildL tu_S_uint8 tz_uint8 ts_uint8 rfl ty ev g n len parts hb
theorem ap_S_uint8 : ∀ (g : AMem) (n : Nat) (s x : Value), aAppend Tryd.prog g n 93 s x = appR g n 0 1 s (aRead g 1 x) := inst_append tu_S_uint8 ts_uint8 tb_uint8 tv_uint8 rfl
theorem mk_S_uint8 : ∀ (n : Nat) (k k' : IntKind) (l c : Int), aMake Tryd.prog n 93 (.int k l) (.int k' c) = if 0 ≤ l ∧ l ≤ c ∧ c ≤ 70368744177664 ∧ 1 * c.toNat ≤ 70368744177664 then some (.slice (some ⟨n, 0, none⟩) l.toNat 1, .new (.row (zeroRow [.int .u8 0] l.toNat) true)) else none := inst_make tu_S_uint8 ts_uint8 tb_uint8 tv_uint8 rfl rfl
theorem sl_S_uint8 : ∀ (ty : TypeId) (ev : Operand → Value) (g : AMem) (n : Nat) (x : Operand) (lo hi : Option Operand), aOp Tryd.prog ty ev g n (.slice 93 x lo hi none) = (slR 1 (ev x) (lo.map ev) (hi.map ev)).map fun v => (v, .none) := aOp_sliceS tu_S_uint8 ts_uint8
theorem cp_S_uint8 : ∀ (g : AMem) (d s : Value), aCopy Tryd.prog g 93 d s = cpR g 1 d (aRead g 1 s) := aCopy_eq tu_S_uint8 ts_uint8
theorem bs_strings_Builder : ∀ (ty : TypeId) (ev : Operand → Value) (g : AMem) (n : Nat) (parts : Array (Nat × Operand)), aOp Tryd.prog ty ev g n (.build 95 parts) = (fillP [(0, 1), (1, 1)] [.pointer none, .slice none 0 0] (parts.toList.map fun p => (p.1, ev p.2))).map fun cs => (.agg cs.toArray, .none) := aOp_buildS tz_strings_Builder tp_strings_Builder
theorem beq_A24_uint8 : ∀ (xo yo : Operand) (xs ys : List Value), fitsB [.int .u8, .int .u8, .int .u8, .int .u8, .int .u8, .int .u8, .int .u8, .int .u8, .int .u8, .int .u8, .int .u8, .int .u8, .int .u8, .int .u8, .int .u8, .int .u8, .int .u8, .int .u8, .int .u8, .int .u8, .int .u8, .int .u8, .int .u8, .int .u8] xs = true → fitsB [.int .u8, .int .u8, .int .u8, .int .u8, .int .u8, .int .u8, .int .u8, .int .u8, .int .u8, .int .u8, .int .u8, .int .u8, .int .u8, .int .u8, .int .u8, .int .u8, .int .u8, .int .u8, .int .u8, .int .u8, .int .u8, .int .u8, .int .u8, .int .u8] ys = true → aBin Tryd.prog .eql 116 xo yo (.agg xs.toArray) (.agg ys.toArray) = some (.bool (cellsEq xs ys)) := fun _ _ _ _ hx hy => bin_eql_agg te_A24_uint8 ta_A24_uint8 hx hy
theorem bne_A24_uint8 : ∀ (xo yo : Operand) (xs ys : List Value), fitsB [.int .u8, .int .u8, .int .u8, .int .u8, .int .u8, .int .u8, .int .u8, .int .u8, .int .u8, .int .u8, .int .u8, .int .u8, .int .u8, .int .u8, .int .u8, .int .u8, .int .u8, .int .u8, .int .u8, .int .u8, .int .u8, .int .u8, .int .u8, .int .u8] xs = true → fitsB [.int .u8, .int .u8, .int .u8, .int .u8, .int .u8, .int .u8, .int .u8, .int .u8, .int .u8, .int .u8, .int .u8, .int .u8, .int .u8, .int .u8, .int .u8, .int .u8, .int .u8, .int .u8, .int .u8, .int .u8, .int .u8, .int .u8, .int .u8, .int .u8] ys = true → aBin Tryd.prog .neq 116 xo yo (.agg xs.toArray) (.agg ys.toArray) = some (.bool (!cellsEq xs ys)) := fun _ _ _ _ hx hy => bin_neq_agg te_A24_uint8 ta_A24_uint8 hx hy
theorem bs_A24_uint8 : ∀ (ty : TypeId) (ev : Operand → Value) (g : AMem) (n : Nat) (parts : Array (Nat × Operand)), aOp Tryd.prog ty ev g n (.build 116 parts) = (fillS 1 [.int .u8 0, .int .u8 0, .int .u8 0, .int .u8 0, .int .u8 0, .int .u8 0, .int .u8 0, .int .u8 0, .int .u8 0, .int .u8 0, .int .u8 0, .int .u8 0, .int .u8 0, .int .u8 0, .int .u8 0, .int .u8 0, .int .u8 0, .int .u8 0, .int .u8 0, .int .u8 0, .int .u8 0, .int .u8 0, .int .u8 0, .int .u8 0] (parts.toList.map fun p => (p.1, ev p.2))).map fun cs => (.agg cs.toArray, .none) := aOp_buildA tz_A24_uint8 tu_A24_uint8 ts_uint8
theorem ia_A24_uint8 : ∀ (b o : Nat) (i : Int), aIndexAddrR Tryd.prog (some (.array 24 5)) (.pointer (some ⟨b, o, none⟩)) i = if 0 ≤ i ∧ i < (24 : Nat) then some (.pointer (some ⟨b, o + i.toNat * 1, none⟩)) else none := fun b o i => aIndexAddrR_array i ts_uint8
theorem sl_A24_uint8 : ∀ (ty : TypeId) (ev : Operand → Value) (g : AMem) (n : Nat) (x : Operand), aOp Tryd.prog ty ev g n (.slice 116 x none none none) = (saR g 24 1 (ev x)).map fun v => (v, .none) := aOp_sliceA tu_A24_uint8 ts_uint8
theorem beq_A20_uint64 : ∀ (xo yo : Operand) (xs ys : List Value), fitsB [.int .u64, .int .u64, .int .u64, .int .u64, .int .u64, .int .u64, .int .u64, .int .u64, .int .u64, .int .u64, .int .u64, .int .u64, .int .u64, .int .u64, .int .u64, .int .u64, .int .u64, .int .u64, .int .u64, .int .u64] xs = true → fitsB [.int .u64, .int .u64, .int .u64, .int .u64, .int .u64, .int .u64, .int .u64, .int .u64, .int .u64, .int .u64, .int .u64, .int .u64, .int .u64, .int .u64, .int .u64, .int .u64, .int .u64, .int .u64, .int .u64, .int .u64] ys = true → aBin Tryd.prog .eql 135 xo yo (.agg xs.toArray) (.agg ys.toArray) = some (.bool (cellsEq xs ys)) := fun _ _ _ _ hx hy => bin_eql_agg te_A20_uint64 ta_A20_uint64 hx hy
theorem bne_A20_uint64 : ∀ (xo yo : Operand) (xs ys : List Value), fitsB [.int .u64, .int .u64, .int .u64, .int .u64, .int .u64, .int .u64, .int .u64, .int .u64, .int .u64, .int .u64, .int .u64, .int .u64, .int .u64, .int .u64, .int .u64, .int .u64, .int .u64, .int .u64, .int .u64, .int .u64] xs = true → fitsB [.int .u64, .int .u64, .int .u64, .int .u64, .int .u64, .int .u64, .int .u64, .int .u64, .int .u64, .int .u64, .int .u64, .int .u64, .int .u64, .int .u64, .int .u64, .int .u64, .int .u64, .int .u64, .int .u64, .int .u64] ys = true → aBin Tryd.prog .neq 135 xo yo (.agg xs.toArray) (.agg ys.toArray) = some (.bool (!cellsEq xs ys)) := fun _ _ _ _ hx hy => bin_neq_agg te_A20_uint64 ta_A20_uint64 hx hy
theorem bs_A20_uint64 : ∀ (ty : TypeId) (ev : Operand → Value) (g : AMem) (n : Nat) (parts : Array (Nat × Operand)), aOp Tryd.prog ty ev g n (.build 135 parts) = (fillS 1 [.int .u64 0, .int .u64 0, .int .u64 0, .int .u64 0, .int .u64 0, .int .u64 0, .int .u64 0, .int .u64 0, .int .u64 0, .int .u64 0, .int .u64 0, .int .u64 0, .int .u64 0, .int .u64 0, .int .u64 0, .int .u64 0, .int .u64 0, .int .u64 0, .int .u64 0, .int .u64 0] (parts.toList.map fun p => (p.1, ev p.2))).map fun cs => (.agg cs.toArray, .none) := aOp_buildA tz_A20_uint64 tu_A20_uint64 ts_uint64
theorem ia_A20_uint64 : ∀ (b o : Nat) (i : Int), aIndexAddrR Tryd.prog (some (.array 20 27)) (.pointer (some ⟨b, o, none⟩)) i = if 0 ≤ i ∧ i < (20 : Nat) then some (.pointer (some ⟨b, o + i.toNat * 1, none⟩)) else none := fun b o i => aIndexAddrR_array i ts_uint64
theorem sl_A20_uint64 : ∀ (ty : TypeId) (ev : Operand → Value) (g : AMem) (n : Nat) (x : Operand), aOp Tryd.prog ty ev g n (.slice 135 x none none none) = (saR g 20 1 (ev x)).map fun v => (v, .none) := aOp_sliceA tu_A20_uint64 ts_uint64
theorem ia_A65_uint8 : ∀ (b o : Nat) (i : Int), aIndexAddrR Tryd.prog (some (.array 65 5)) (.pointer (some ⟨b, o, none⟩)) i = if 0 ≤ i ∧ i < (65 : Nat) then some (.pointer (some ⟨b, o + i.toNat * 1, none⟩)) else none := fun b o i => aIndexAddrR_array i ts_uint8
theorem sl_A65_uint8 : ∀ (ty : TypeId) (ev : Operand → Value) (g : AMem) (n : Nat) (x : Operand), aOp Tryd.prog ty ev g n (.slice 137 x none none none) = (saR g 65 1 (ev x)).map fun v => (v, .none) := aOp_sliceA tu_A65_uint8 ts_uint8
theorem beq_A32_uint8 : ∀ (xo yo : Operand) (xs ys : List Value), fitsB [.int .u8, .int .u8, .int .u8, .int .u8, .int .u8, .int .u8, .int .u8, .int .u8, .int .u8, .int .u8, .int .u8, .int .u8, .int .u8, .int .u8, .int .u8, .int .u8, .int .u8, .int .u8, .int .u8, .int .u8, .int .u8, .int .u8, .int .u8, .int .u8, .int .u8, .int .u8, .int .u8, .int .u8, .int .u8, .int .u8, .int .u8, .int .u8] xs = true → fitsB [.int .u8, .int .u8, .int .u8, .int .u8, .int .u8, .int .u8, .int .u8, .int .u8, .int .u8, .int .u8, .int .u8, .int .u8, .int .u8, .int .u8, .int .u8, .int .u8, .int .u8, .int .u8, .int .u8, .int .u8, .int .u8, .int .u8, .int .u8, .int .u8, .int .u8, .int .u8, .int .u8, .int .u8, .int .u8, .int .u8, .int .u8, .int .u8] ys = true → aBin Tryd.prog .eql 151 xo yo (.agg xs.toArray) (.agg ys.toArray) = some (.bool (cellsEq xs ys)) := fun _ _ _ _ hx hy => bin_eql_agg te_A32_uint8 ta_A32_uint8 hx hy
theorem bne_A32_uint8 : ∀ (xo yo : Operand) (xs ys : List Value), fitsB [.int .u8, .int .u8, .int .u8, .int .u8, .int .u8, .int .u8, .int .u8, .int .u8, .int .u8, .int .u8, .int .u8, .int .u8, .int .u8, .int .u8, .int .u8, .int .u8, .int .u8, .int .u8, .int .u8, .int .u8, .int .u8, .int .u8, .int .u8, .int .u8, .int .u8, .int .u8, .int .u8, .int .u8, .int .u8, .int .u8, .int .u8, .int .u8] xs = true → fitsB [.int .u8, .int .u8, .int .u8, .int .u8, .int .u8, .int .u8, .int .u8, .int .u8, .int .u8, .int .u8, .int .u8, .int .u8, .int .u8, .int .u8, .int .u8, .int .u8, .int .u8, .int .u8, .int .u8, .int .u8, .int .u8, .int .u8, .int .u8, .int .u8, .int .u8, .int .u8, .int .u8, .int .u8, .int .u8, .int .u8, .int .u8, .int .u8] ys = true → aBin Tryd.prog .neq 151 xo yo (.agg xs.toArray) (.agg ys.toArray) = some (.bool (!cellsEq xs ys)) := fun _ _ _ _ hx hy => bin_neq_agg te_A32_uint8 ta_A32_uint8 hx hy
theorem bs_A32_uint8 : ∀ (ty : TypeId) (ev : Operand → Value) (g : AMem) (n : Nat) (parts : Array (Nat × Operand)), aOp Tryd.prog ty ev g n (.build 151 parts) = (fillS 1 [.int .u8 0, .int .u8 0, .int .u8 0, .int .u8 0, .int .u8 0, .int .u8 0, .int .u8 0, .int .u8 0, .int .u8 0, .int .u8 0, .int .u8 0, .int .u8 0, .int .u8 0, .int .u8 0, .int .u8 0, .int .u8 0, .int .u8 0, .int .u8 0, .int .u8 0, .int .u8 0, .int .u8 0, .int .u8 0, .int .u8 0, .int .u8 0, .int .u8 0, .int .u8 0, .int .u8 0, .int .u8 0, .int .u8 0, .int .u8 0, .int .u8 0, .int .u8 0] (parts.toList.map fun p => (p.1, ev p.2))).map fun cs => (.agg cs.toArray, .none) := aOp_buildA tz_A32_uint8 tu_A32_uint8 ts_uint8
theorem ia_A32_uint8 : ∀ (b o : Nat) (i : Int), aIndexAddrR Tryd.prog (some (.array 32 5)) (.pointer (some ⟨b, o, none⟩)) i = if 0 ≤ i ∧ i < (32 : Nat) then some (.pointer (some ⟨b, o + i.toNat * 1, none⟩)) else none := fun b o i => aIndexAddrR_array i ts_uint8
theorem sl_A32_uint8 : ∀ (ty : TypeId) (ev : Operand → Value) (g : AMem) (n : Nat) (x : Operand), aOp Tryd.prog ty ev g n (.slice 151 x none none none) = (saR g 32 1 (ev x)).map fun v => (v, .none) := aOp_sliceA tu_A32_uint8 ts_uint8
theorem ia_A64_uint8 : ∀ (b o : Nat) (i : Int), aIndexAddrR Tryd.prog (some (.array 64 5)) (.pointer (some ⟨b, o, none⟩)) i = if 0 ≤ i ∧ i < (64 : Nat) then some (.pointer (some ⟨b, o + i.toNat * 1, none⟩)) else none := fun b o i => aIndexAddrR_array i ts_uint8
theorem sl_A64_uint8 : ∀ (ty : TypeId) (ev : Operand → Value) (g : AMem) (n : Nat) (x : Operand), aOp Tryd.prog ty ev g n (.slice 152 x none none none) = (saR g 64 1 (ev x)).map fun v => (v, .none) := aOp_sliceA tu_A64_uint8 ts_uint8
theorem q_int64 : (tsize Tryd.prog 2 = some 1) ∧ (tagg Tryd.prog 2 = some false) ∧ (zeroFlat Tryd.prog 2 = some [.int .i64 0]) ∧ (Tryd.prog.underlying 2 = some (.int .i64)) := ⟨ts_int64, ta_int64, tz_int64, tu_int64⟩
theorem q_int : (tsize Tryd.prog 3 = some 1) ∧ (tagg Tryd.prog 3 = some false) ∧ (zeroFlat Tryd.prog 3 = some [.int .i64 0]) ∧ (Tryd.prog.underlying 3 = some (.int .i64)) := ⟨ts_int, ta_int, tz_int, tu_int⟩
theorem q_bool : (tsize Tryd.prog 4 = some 1) ∧ (tagg Tryd.prog 4 = some false) ∧ (zeroFlat Tryd.prog 4 = some [.bool false]) ∧ (Tryd.prog.underlying 4 = some (.bool)) := ⟨ts_bool, ta_bool, tz_bool, tu_bool⟩
theorem q_uint8 : (tsize Tryd.prog 5 = some 1) ∧ (tagg Tryd.prog 5 = some false) ∧ (zeroFlat Tryd.prog 5 = some [.int .u8 0]) ∧ (Tryd.prog.underlying 5 = some (.int .u8)) := ⟨ts_uint8, ta_uint8, tz_uint8, tu_uint8⟩
theorem q_string : (tsize Tryd.prog 9 = some 1) ∧ (tagg Tryd.prog 9 = some false) ∧ (zeroFlat Tryd.prog 9 = some [.string ByteArray.empty]) ∧ (Tryd.prog.underlying 9 = some (.string)) := ⟨ts_string, ta_string, tz_string, tu_string⟩
theorem q_interface : (tsize Tryd.prog 20 = some 1) ∧ (tagg Tryd.prog 20 = some false) ∧ (zeroFlat Tryd.prog 20 = some [.nilIface]) := ⟨ts_interface, ta_interface, tz_interface⟩
theorem q_int32 : (tsize Tryd.prog 21 = some 1) ∧ (tagg Tryd.prog 21 = some false) ∧ (zeroFlat Tryd.prog 21 = some [.int .i32 0]) ∧ (Tryd.prog.underlying 21 = some (.int .i32)) := ⟨ts_int32, ta_int32, tz_int32, tu_int32⟩
theorem q_uint64 : (tsize Tryd.prog 27 = some 1) ∧ (tagg Tryd.prog 27 = some false) ∧ (zeroFlat Tryd.prog 27 = some [.int .u64 0]) ∧ (Tryd.prog.underlying 27 = some (.int .u64)) := ⟨ts_uint64, ta_uint64, tz_uint64, tu_uint64⟩
theorem q_cap_Cap : (tsize Tryd.prog 34 = some 4) ∧ (tagg Tryd.prog 34 = some true) ∧ (zeroFlat Tryd.prog 34 = some [.int .i64 0, .int .i64 0, .int .i64 0, .int .i64 0]) ∧ (tplaces Tryd.prog 34 = some [(0, 1), (1, 1), (2, 1), (3, 1)]) ∧ (tfield Tryd.prog 34 0 = some (3, 0)) ∧ (tfield' Tryd.prog 34 0 = some (3, 0)) ∧ (tfield Tryd.prog 34 1 = some (3, 1)) ∧ (tfield' Tryd.prog 34 1 = some (3, 1)) ∧ (tfield Tryd.prog 34 2 = some (3, 2)) ∧ (tfield' Tryd.prog 34 2 = some (3, 2)) ∧ (tfield Tryd.prog 34 3 = some (3, 3)) ∧ (tfield' Tryd.prog 34 3 = some (3, 3)) ∧ (∀ (ty : TypeId) (ev : Operand → Value) (g : AMem) (n : Nat) (parts : Array (Nat × Operand)), aOp Tryd.prog ty ev g n (.build 34 parts) = (fillP [(0, 1), (1, 1), (2, 1), (3, 1)] [.int .i64 0, .int .i64 0, .int .i64 0, .int .i64 0] (parts.toList.map fun p => (p.1, ev p.2))).map fun cs => (.agg cs.toArray, .none)) := ⟨ts_cap_Cap, ta_cap_Cap, tz_cap_Cap, tp_cap_Cap, tf_cap_Cap_Type, tg_cap_Cap_Type, tf_cap_Cap_Thing, tg_cap_Cap_Thing, tf_cap_Cap_Rights, tg_cap_Cap_Rights, tf_cap_Cap_Badge, tg_cap_Cap_Badge, bs_cap_Cap⟩
theorem q_S_cap_Cap : (tsize Tryd.prog 42 = some 1) ∧ (tagg Tryd.prog 42 = some false) ∧ (zeroFlat Tryd.prog 42 = some [.slice none 0 0]) ∧ (Tryd.prog.underlying 42 = some (.slice 34)) ∧ (∀ (ty : TypeId) (ev : Operand → Value) (g : AMem) (n : Nat) (len : Nat) (parts : Array (Nat × Operand)), len * 4 ≤ 16777216 → aOp Tryd.prog ty ev g n (.buildSlice 42 len parts) = (fillS 4 (zeroRow [.int .i64 0, .int .i64 0, .int .i64 0, .int .i64 0] len) (parts.toList.map fun p => (p.1, ev p.2))).map fun cs => (.slice (some ⟨n, 0, none⟩) len 4, .new (.row cs true))) ∧ (∀ (g : AMem) (n : Nat) (s x : Value), aAppend Tryd.prog g n 42 s x = appR g n 3 32 s (aRead g 4 x)) ∧ (∀ (n : Nat) (k k' : IntKind) (l c : Int), aMake Tryd.prog n 42 (.int k l) (.int k' c) = if 0 ≤ l ∧ l ≤ c ∧ c ≤ 70368744177664 ∧ 32 * c.toNat ≤ 70368744177664 then some (.slice (some ⟨n, 0, none⟩) l.toNat 4, .new (.row (zeroRow [.int .i64 0, .int .i64 0, .int .i64 0, .int .i64 0] l.toNat) true)) else none) ∧ (∀ (ty : TypeId) (ev : Operand → Value) (g : AMem) (n : Nat) (x : Operand) (lo hi : Option Operand), aOp Tryd.prog ty ev g n (.slice 42 x lo hi none) = (slR 4 (ev x) (lo.map ev) (hi.map ev)).map fun v => (v, .none)) ∧ (∀ (g : AMem) (d s : Value), aCopy Tryd.prog g 42 d s = cpR g 4 d (aRead g 4 s)) := ⟨ts_S_cap_Cap, ta_S_cap_Cap, tz_S_cap_Cap, tu_S_cap_Cap, bl_S_cap_Cap, ap_S_cap_Cap, mk_S_cap_Cap, sl_S_cap_Cap, cp_S_cap_Cap⟩
theorem q_api_Errno : (tsize Tryd.prog 43 = some 1) ∧ (tagg Tryd.prog 43 = some false) ∧ (zeroFlat Tryd.prog 43 = some [.int .i64 0]) ∧ (Tryd.prog.underlying 43 = some (.int .i64)) := ⟨ts_api_Errno, ta_api_Errno, tz_api_Errno, tu_api_Errno⟩
theorem q_S_string : (tsize Tryd.prog 65 = some 1) ∧ (tagg Tryd.prog 65 = some false) ∧ (zeroFlat Tryd.prog 65 = some [.slice none 0 0]) ∧ (Tryd.prog.underlying 65 = some (.slice 9)) ∧ (∀ (ty : TypeId) (ev : Operand → Value) (g : AMem) (n : Nat) (len : Nat) (parts : Array (Nat × Operand)), len * 1 ≤ 16777216 → aOp Tryd.prog ty ev g n (.buildSlice 65 len parts) = (fillS 1 (zeroRow [.string ByteArray.empty] len) (parts.toList.map fun p => (p.1, ev p.2))).map fun cs => (.slice (some ⟨n, 0, none⟩) len 1, .new (.row cs true))) ∧ (∀ (g : AMem) (n : Nat) (s x : Value), aAppend Tryd.prog g n 65 s x = appR g n 0 16 s (aRead g 1 x)) ∧ (∀ (n : Nat) (k k' : IntKind) (l c : Int), aMake Tryd.prog n 65 (.int k l) (.int k' c) = if 0 ≤ l ∧ l ≤ c ∧ c ≤ 70368744177664 ∧ 16 * c.toNat ≤ 70368744177664 then some (.slice (some ⟨n, 0, none⟩) l.toNat 1, .new (.row (zeroRow [.string ByteArray.empty] l.toNat) true)) else none) ∧ (∀ (ty : TypeId) (ev : Operand → Value) (g : AMem) (n : Nat) (x : Operand) (lo hi : Option Operand), aOp Tryd.prog ty ev g n (.slice 65 x lo hi none) = (slR 1 (ev x) (lo.map ev) (hi.map ev)).map fun v => (v, .none)) ∧ (∀ (g : AMem) (d s : Value), aCopy Tryd.prog g 65 d s = cpR g 1 d (aRead g 1 s)) := ⟨ts_S_string, ta_S_string, tz_S_string, tu_S_string, bl_S_string, ap_S_string, mk_S_string, sl_S_string, cp_S_string⟩
theorem q_S_uint64 : (tsize Tryd.prog 66 = some 1) ∧ (tagg Tryd.prog 66 = some false) ∧ (zeroFlat Tryd.prog 66 = some [.slice none 0 0]) ∧ (Tryd.prog.underlying 66 = some (.slice 27)) ∧ (∀ (ty : TypeId) (ev : Operand → Value) (g : AMem) (n : Nat) (len : Nat) (parts : Array (Nat × Operand)), len * 1 ≤ 16777216 → aOp Tryd.prog ty ev g n (.buildSlice 66 len parts) = (fillS 1 (zeroRow [.int .u64 0] len) (parts.toList.map fun p => (p.1, ev p.2))).map fun cs => (.slice (some ⟨n, 0, none⟩) len 1, .new (.row cs true))) ∧ (∀ (g : AMem) (n : Nat) (s x : Value), aAppend Tryd.prog g n 66 s x = appR g n 0 8 s (aRead g 1 x)) ∧ (∀ (n : Nat) (k k' : IntKind) (l c : Int), aMake Tryd.prog n 66 (.int k l) (.int k' c) = if 0 ≤ l ∧ l ≤ c ∧ c ≤ 70368744177664 ∧ 8 * c.toNat ≤ 70368744177664 then some (.slice (some ⟨n, 0, none⟩) l.toNat 1, .new (.row (zeroRow [.int .u64 0] l.toNat) true)) else none) ∧ (∀ (ty : TypeId) (ev : Operand → Value) (g : AMem) (n : Nat) (x : Operand) (lo hi : Option Operand), aOp Tryd.prog ty ev g n (.slice 66 x lo hi none) = (slR 1 (ev x) (lo.map ev) (hi.map ev)).map fun v => (v, .none)) ∧ (∀ (g : AMem) (d s : Value), aCopy Tryd.prog g 66 d s = cpR g 1 d (aRead g 1 s)) := ⟨ts_S_uint64, ta_S_uint64, tz_S_uint64, tu_S_uint64, bl_S_uint64, ap_S_uint64, mk_S_uint64, sl_S_uint64, cp_S_uint64⟩
theorem q_S_tag_Field : (tsize Tryd.prog 78 = some 1) ∧ (tagg Tryd.prog 78 = some false) ∧ (zeroFlat Tryd.prog 78 = some [.slice none 0 0]) ∧ (Tryd.prog.underlying 78 = some (.slice 100)) ∧ (∀ (ty : TypeId) (ev : Operand → Value) (g : AMem) (n : Nat) (len : Nat) (parts : Array (Nat × Operand)), len * 2 ≤ 16777216 → aOp Tryd.prog ty ev g n (.buildSlice 78 len parts) = (fillS 2 (zeroRow [.int .i64 0, .int .i64 0] len) (parts.toList.map fun p => (p.1, ev p.2))).map fun cs => (.slice (some ⟨n, 0, none⟩) len 2, .new (.row cs true))) ∧ (∀ (g : AMem) (n : Nat) (s x : Value), aAppend Tryd.prog g n 78 s x = appR g n 1 16 s (aRead g 2 x)) ∧ (∀ (n : Nat) (k k' : IntKind) (l c : Int), aMake Tryd.prog n 78 (.int k l) (.int k' c) = if 0 ≤ l ∧ l ≤ c ∧ c ≤ 70368744177664 ∧ 16 * c.toNat ≤ 70368744177664 then some (.slice (some ⟨n, 0, none⟩) l.toNat 2, .new (.row (zeroRow [.int .i64 0, .int .i64 0] l.toNat) true)) else none) ∧ (∀ (ty : TypeId) (ev : Operand → Value) (g : AMem) (n : Nat) (x : Operand) (lo hi : Option Operand), aOp Tryd.prog ty ev g n (.slice 78 x lo hi none) = (slR 2 (ev x) (lo.map ev) (hi.map ev)).map fun v => (v, .none)) ∧ (∀ (g : AMem) (d s : Value), aCopy Tryd.prog g 78 d s = cpR g 2 d (aRead g 2 s)) := ⟨ts_S_tag_Field, ta_S_tag_Field, tz_S_tag_Field, tu_S_tag_Field, bl_S_tag_Field, ap_S_tag_Field, mk_S_tag_Field, sl_S_tag_Field, cp_S_tag_Field⟩
theorem q_uint : (tsize Tryd.prog 85 = some 1) ∧ (tagg Tryd.prog 85 = some false) ∧ (zeroFlat Tryd.prog 85 = some [.int .u64 0]) ∧ (Tryd.prog.underlying 85 = some (.int .u64)) := ⟨ts_uint, ta_uint, tz_uint, tu_uint⟩
theorem q_error : (tsize Tryd.prog 88 = some 1) ∧ (tagg Tryd.prog 88 = some false) ∧ (zeroFlat Tryd.prog 88 = some [.nilIface]) := ⟨ts_error, ta_error, tz_error⟩
theorem q_P_strings_Builder : (tsize Tryd.prog 92 = some 1) ∧ (tagg Tryd.prog 92 = some false) ∧ (zeroFlat Tryd.prog 92 = some [.pointer none]) ∧ (Tryd.prog.underlying 92 = some (.pointer 95)) := ⟨ts_P_strings_Builder, ta_P_strings_Builder, tz_P_strings_Builder, tu_P_strings_Builder⟩
theorem q_S_uint8 : (tsize Tryd.prog 93 = some 1) ∧ (tagg Tryd.prog 93 = some false) ∧ (zeroFlat Tryd.prog 93 = some [.slice none 0 0]) ∧ (Tryd.prog.underlying 93 = some (.slice 5)) ∧ (∀ (ty : TypeId) (ev : Operand → Value) (g : AMem) (n : Nat) (len : Nat) (parts : Array (Nat × Operand)), len * 1 ≤ 16777216 → aOp Tryd.prog ty ev g n (.buildSlice 93 len parts) = (fillS 1 (zeroRow [.int .u8 0] len) (parts.toList.map fun p => (p.1, ev p.2))).map fun cs => (.slice (some ⟨n, 0, none⟩) len 1, .new (.row cs true))) ∧ (∀ (g : AMem) (n : Nat) (s x : Value), aAppend Tryd.prog g n 93 s x = appR g n 0 1 s (aRead g 1 x)) ∧ (∀ (n : Nat) (k k' : IntKind) (l c : Int), aMake Tryd.prog n 93 (.int k l) (.int k' c) = if 0 ≤ l ∧ l ≤ c ∧ c ≤ 70368744177664 ∧ 1 * c.toNat ≤ 70368744177664 then some (.slice (some ⟨n, 0, none⟩) l.toNat 1, .new (.row (zeroRow [.int .u8 0] l.toNat) true)) else none) ∧ (∀ (ty : TypeId) (ev : Operand → Value) (g : AMem) (n : Nat) (x : Operand) (lo hi : Option Operand), aOp Tryd.prog ty ev g n (.slice 93 x lo hi none) = (slR 1 (ev x) (lo.map ev) (hi.map ev)).map fun v => (v, .none)) ∧ (∀ (g : AMem) (d s : Value), aCopy Tryd.prog g 93 d s = cpR g 1 d (aRead g 1 s)) := ⟨ts_S_uint8, ta_S_uint8, tz_S_uint8, tu_S_uint8, bl_S_uint8, ap_S_uint8, mk_S_uint8, sl_S_uint8, cp_S_uint8⟩
theorem q_strings_Builder : (tsize Tryd.prog 95 = some 2) ∧ (tagg Tryd.prog 95 = some true) ∧ (zeroFlat Tryd.prog 95 = some [.pointer none, .slice none 0 0]) ∧ (tplaces Tryd.prog 95 = some [(0, 1), (1, 1)]) ∧ (tfield Tryd.prog 95 0 = some (92, 0)) ∧ (tfield' Tryd.prog 95 0 = some (92, 0)) ∧ (tfield Tryd.prog 95 1 = some (93, 1)) ∧ (tfield' Tryd.prog 95 1 = some (93, 1)) ∧ (∀ (ty : TypeId) (ev : Operand → Value) (g : AMem) (n : Nat) (parts : Array (Nat × Operand)), aOp Tryd.prog ty ev g n (.build 95 parts) = (fillP [(0, 1), (1, 1)] [.pointer none, .slice none 0 0] (parts.toList.map fun p => (p.1, ev p.2))).map fun cs => (.agg cs.toArray, .none)) := ⟨ts_strings_Builder, ta_strings_Builder, tz_strings_Builder, tp_strings_Builder, tf_strings_Builder_addr, tg_strings_Builder_addr, tf_strings_Builder_buf, tg_strings_Builder_buf, bs_strings_Builder⟩
theorem q_tag_Field : (tsize Tryd.prog 100 = some 2) ∧ (tagg Tryd.prog 100 = some true) ∧ (zeroFlat Tryd.prog 100 = some [.int .i64 0, .int .i64 0]) ∧ (tplaces Tryd.prog 100 = some [(0, 1), (1, 1)]) ∧ (tfield Tryd.prog 100 0 = some (3, 0)) ∧ (tfield' Tryd.prog 100 0 = some (3, 0)) ∧ (tfield Tryd.prog 100 1 = some (3, 1)) ∧ (tfield' Tryd.prog 100 1 = some (3, 1)) ∧ (∀ (ty : TypeId) (ev : Operand → Value) (g : AMem) (n : Nat) (parts : Array (Nat × Operand)), aOp Tryd.prog ty ev g n (.build 100 parts) = (fillP [(0, 1), (1, 1)] [.int .i64 0, .int .i64 0] (parts.toList.map fun p => (p.1, ev p.2))).map fun cs => (.agg cs.toArray, .none)) := ⟨ts_tag_Field, ta_tag_Field, tz_tag_Field, tp_tag_Field, tf_tag_Field_From, tg_tag_Field_From, tf_tag_Field_Len, tg_tag_Field_Len, bs_tag_Field⟩
theorem q_P_uint8 : (tsize Tryd.prog 107 = some 1) ∧ (tagg Tryd.prog 107 = some false) ∧ (zeroFlat Tryd.prog 107 = some [.pointer none]) ∧ (Tryd.prog.underlying 107 = some (.pointer 5)) := ⟨ts_P_uint8, ta_P_uint8, tz_P_uint8, tu_P_uint8⟩
theorem q_A24_uint8 : (tsize Tryd.prog 116 = some 24) ∧ (tagg Tryd.prog 116 = some true) ∧ (zeroFlat Tryd.prog 116 = some [.int .u8 0, .int .u8 0, .int .u8 0, .int .u8 0, .int .u8 0, .int .u8 0, .int .u8 0, .int .u8 0, .int .u8 0, .int .u8 0, .int .u8 0, .int .u8 0, .int .u8 0, .int .u8 0, .int .u8 0, .int .u8 0, .int .u8 0, .int .u8 0, .int .u8 0, .int .u8 0, .int .u8 0, .int .u8 0, .int .u8 0, .int .u8 0]) ∧ (Tryd.prog.underlying 116 = some (.array 24 5)) ∧ (∀ (ty : TypeId) (ev : Operand → Value) (g : AMem) (n : Nat) (parts : Array (Nat × Operand)), aOp Tryd.prog ty ev g n (.build 116 parts) = (fillS 1 [.int .u8 0, .int .u8 0, .int .u8 0, .int .u8 0, .int .u8 0, .int .u8 0, .int .u8 0, .int .u8 0, .int .u8 0, .int .u8 0, .int .u8 0, .int .u8 0, .int .u8 0, .int .u8 0, .int .u8 0, .int .u8 0, .int .u8 0, .int .u8 0, .int .u8 0, .int .u8 0, .int .u8 0, .int .u8 0, .int .u8 0, .int .u8 0] (parts.toList.map fun p => (p.1, ev p.2))).map fun cs => (.agg cs.toArray, .none)) ∧ (∀ (b o : Nat) (i : Int), aIndexAddrR Tryd.prog (some (.array 24 5)) (.pointer (some ⟨b, o, none⟩)) i = if 0 ≤ i ∧ i < (24 : Nat) then some (.pointer (some ⟨b, o + i.toNat * 1, none⟩)) else none) ∧ (∀ (ty : TypeId) (ev : Operand → Value) (g : AMem) (n : Nat) (x : Operand), aOp Tryd.prog ty ev g n (.slice 116 x none none none) = (saR g 24 1 (ev x)).map fun v => (v, .none)) := ⟨ts_A24_uint8, ta_A24_uint8, tz_A24_uint8, tu_A24_uint8, bs_A24_uint8, ia_A24_uint8, sl_A24_uint8⟩
theorem q_A20_uint64 : (tsize Tryd.prog 135 = some 20) ∧ (tagg Tryd.prog 135 = some true) ∧ (zeroFlat Tryd.prog 135 = some [.int .u64 0, .int .u64 0, .int .u64 0, .int .u64 0, .int .u64 0, .int .u64 0, .int .u64 0, .int .u64 0, .int .u64 0, .int .u64 0, .int .u64 0, .int .u64 0, .int .u64 0, .int .u64 0, .int .u64 0, .int .u64 0, .int .u64 0, .int .u64 0, .int .u64 0, .int .u64 0]) ∧ (Tryd.prog.underlying 135 = some (.array 20 27)) ∧ (∀ (ty : TypeId) (ev : Operand → Value) (g : AMem) (n : Nat) (parts : Array (Nat × Operand)), aOp Tryd.prog ty ev g n (.build 135 parts) = (fillS 1 [.int .u64 0, .int .u64 0, .int .u64 0, .int .u64 0, .int .u64 0, .int .u64 0, .int .u64 0, .int .u64 0, .int .u64 0, .int .u64 0, .int .u64 0, .int .u64 0, .int .u64 0, .int .u64 0, .int .u64 0, .int .u64 0, .int .u64 0, .int .u64 0, .int .u64 0, .int .u64 0] (parts.toList.map fun p => (p.1, ev p.2))).map fun cs => (.agg cs.toArray, .none)) ∧ (∀ (b o : Nat) (i : Int), aIndexAddrR Tryd.prog (some (.array 20 27)) (.pointer (some ⟨b, o, none⟩)) i = if 0 ≤ i ∧ i < (20 : Nat) then some (.pointer (some ⟨b, o + i.toNat * 1, none⟩)) else none) ∧ (∀ (ty : TypeId) (ev : Operand → Value) (g : AMem) (n : Nat) (x : Operand), aOp Tryd.prog ty ev g n (.slice 135 x none none none) = (saR g 20 1 (ev x)).map fun v => (v, .none)) := ⟨ts_A20_uint64, ta_A20_uint64, tz_A20_uint64, tu_A20_uint64, bs_A20_uint64, ia_A20_uint64, sl_A20_uint64⟩
theorem q_uint32 : (tsize Tryd.prog 136 = some 1) ∧ (tagg Tryd.prog 136 = some false) ∧ (zeroFlat Tryd.prog 136 = some [.int .u32 0]) ∧ (Tryd.prog.underlying 136 = some (.int .u32)) := ⟨ts_uint32, ta_uint32, tz_uint32, tu_uint32⟩
theorem q_A65_uint8 : (tsize Tryd.prog 137 = some 65) ∧ (tagg Tryd.prog 137 = some true) ∧ (Tryd.prog.underlying 137 = some (.array 65 5)) ∧ (∀ (b o : Nat) (i : Int), aIndexAddrR Tryd.prog (some (.array 65 5)) (.pointer (some ⟨b, o, none⟩)) i = if 0 ≤ i ∧ i < (65 : Nat) then some (.pointer (some ⟨b, o + i.toNat * 1, none⟩)) else none) ∧ (∀ (ty : TypeId) (ev : Operand → Value) (g : AMem) (n : Nat) (x : Operand), aOp Tryd.prog ty ev g n (.slice 137 x none none none) = (saR g 65 1 (ev x)).map fun v => (v, .none)) := ⟨ts_A65_uint8, ta_A65_uint8, tu_A65_uint8, ia_A65_uint8, sl_A65_uint8⟩
theorem q_A32_uint8 : (tsize Tryd.prog 151 = some 32) ∧ (tagg Tryd.prog 151 = some true) ∧ (zeroFlat Tryd.prog 151 = some [.int .u8 0, .int .u8 0, .int .u8 0, .int .u8 0, .int .u8 0, .int .u8 0, .int .u8 0, .int .u8 0, .int .u8 0, .int .u8 0, .int .u8 0, .int .u8 0, .int .u8 0, .int .u8 0, .int .u8 0, .int .u8 0, .int .u8 0, .int .u8 0, .int .u8 0, .int .u8 0, .int .u8 0, .int .u8 0, .int .u8 0, .int .u8 0, .int .u8 0, .int .u8 0, .int .u8 0, .int .u8 0, .int .u8 0, .int .u8 0, .int .u8 0, .int .u8 0]) ∧ (Tryd.prog.underlying 151 = some (.array 32 5)) ∧ (∀ (ty : TypeId) (ev : Operand → Value) (g : AMem) (n : Nat) (parts : Array (Nat × Operand)), aOp Tryd.prog ty ev g n (.build 151 parts) = (fillS 1 [.int .u8 0, .int .u8 0, .int .u8 0, .int .u8 0, .int .u8 0, .int .u8 0, .int .u8 0, .int .u8 0, .int .u8 0, .int .u8 0, .int .u8 0, .int .u8 0, .int .u8 0, .int .u8 0, .int .u8 0, .int .u8 0, .int .u8 0, .int .u8 0, .int .u8 0, .int .u8 0, .int .u8 0, .int .u8 0, .int .u8 0, .int .u8 0, .int .u8 0, .int .u8 0, .int .u8 0, .int .u8 0, .int .u8 0, .int .u8 0, .int .u8 0, .int .u8 0] (parts.toList.map fun p => (p.1, ev p.2))).map fun cs => (.agg cs.toArray, .none)) ∧ (∀ (b o : Nat) (i : Int), aIndexAddrR Tryd.prog (some (.array 32 5)) (.pointer (some ⟨b, o, none⟩)) i = if 0 ≤ i ∧ i < (32 : Nat) then some (.pointer (some ⟨b, o + i.toNat * 1, none⟩)) else none) ∧ (∀ (ty : TypeId) (ev : Operand → Value) (g : AMem) (n : Nat) (x : Operand), aOp Tryd.prog ty ev g n (.slice 151 x none none none) = (saR g 32 1 (ev x)).map fun v => (v, .none)) := ⟨ts_A32_uint8, ta_A32_uint8, tz_A32_uint8, tu_A32_uint8, bs_A32_uint8, ia_A32_uint8, sl_A32_uint8⟩
theorem q_A64_uint8 : (tsize Tryd.prog 152 = some 64) ∧ (tagg Tryd.prog 152 = some true) ∧ (Tryd.prog.underlying 152 = some (.array 64 5)) ∧ (∀ (b o : Nat) (i : Int), aIndexAddrR Tryd.prog (some (.array 64 5)) (.pointer (some ⟨b, o, none⟩)) i = if 0 ≤ i ∧ i < (64 : Nat) then some (.pointer (some ⟨b, o + i.toNat * 1, none⟩)) else none) ∧ (∀ (ty : TypeId) (ev : Operand → Value) (g : AMem) (n : Nat) (x : Operand), aOp Tryd.prog ty ev g n (.slice 152 x none none none) = (saR g 64 1 (ev x)).map fun v => (v, .none)) := ⟨ts_A64_uint8, ta_A64_uint8, tu_A64_uint8, ia_A64_uint8, sl_A64_uint8⟩
/-- reeve/reevelaw8.CapBack -/
abbrev f_reevelaw8_CapBack : FuncId := 4
def rc_reevelaw8_CapBack : RCode :=
  (.seq
    (.region [⟨some 2, .none, true, 0, .box 34 (.tmp 0)⟩,
      ⟨some 4, .none, true, 4, .assign (.const (.bool false))⟩])
  (.keep [1, 2]
  (.seq
    (.seq
      (.region [⟨some 13, .none, true, 4, .call { callee := .value (.func 18), args := #[], argTypes := #[] }⟩,
        ⟨some 14, .none, true, 4, .unOp .not 4 (.tmp 13)⟩])
    (.keep [1, 2, 14]
    (.cond (.tmp 14)
      (.seq
        (.region [⟨some 4, .none, true, 4, .assign (.const (.bool false))⟩])
      .ret)
      .skip)))
  (.seq
    (.region [⟨some 16, .none, true, 34, .load 34 (.tmp 2)⟩,
      ⟨some 17, .none, true, 28, .call { callee := .value (.func 19), args := #[.tmp 16], argTypes := #[34] }⟩,
      ⟨some 15, .none, true, 28, .move (.tmp 17)⟩,
      ⟨some 18, .none, true, 27, .extract (.tmp 15) 0⟩,
      ⟨some 19, .none, true, 4, .extract (.tmp 15) 1⟩,
      ⟨some 5, .none, true, 27, .assign (.tmp 18)⟩,
      ⟨some 6, .none, true, 4, .assign (.tmp 19)⟩])
  (.keep [1, 2, 5, 6]
  (.seq
    (.region [⟨some 21, .none, true, 27, .move (.tmp 5)⟩,
      ⟨some 22, .none, true, 36, .call { callee := .value (.func 20), args := #[.tmp 21], argTypes := #[27] }⟩,
      ⟨some 20, .none, true, 36, .move (.tmp 22)⟩,
      ⟨some 23, .none, true, 34, .extract (.tmp 20) 0⟩,
      ⟨some 24, .none, true, 4, .extract (.tmp 20) 1⟩,
      ⟨some 7, .none, true, 0, .alloc 34⟩,
      ⟨none, .none, true, 0, .store 34 (.tmp 7) (.tmp 23)⟩,
      ⟨some 8, .none, true, 4, .assign (.tmp 24)⟩])
  (.keep [1, 2, 6, 7, 8]
  (.seq
    (.seq
      (.region [⟨some 25, .none, true, 4, .move (.tmp 6)⟩,
        ⟨some 26, .none, true, 34, .load 34 (.tmp 2)⟩,
        ⟨some 27, .none, true, 4, .call { callee := .value (.func 21), args := #[.tmp 26], argTypes := #[34] }⟩,
        ⟨some 28, .none, true, 4, .binOp .neq 4 (.tmp 25) (.tmp 27) 4⟩,
        ⟨some 29, .none, true, 4, .move (.tmp 28)⟩,
        ⟨some 30, .some 29 false, true, 4, .move (.tmp 6)⟩,
        ⟨some 31, .some 29 false, true, 4, .move (.tmp 30)⟩,
        ⟨some 32, .some 31 true, true, 4, .move (.tmp 8)⟩,
        ⟨some 33, .some 31 true, true, 4, .unOp .not 4 (.tmp 32)⟩,
        ⟨some 34, .some 31 true, true, 4, .move (.tmp 33)⟩,
        ⟨some 35, .some 34 false, true, 34, .load 34 (.tmp 7)⟩,
        ⟨some 36, .some 34 false, true, 34, .load 34 (.tmp 2)⟩,
        ⟨some 37, .some 34 false, true, 4, .binOp .neq 34 (.tmp 35) (.tmp 36) 34⟩,
        ⟨some 38, .some 31 true, true, 4, .pick (.tmp 34) (.const (.bool true)) (.tmp 37)⟩,
        ⟨some 39, .some 29 false, true, 4, .pick (.tmp 31) (.tmp 38) (.const (.bool false))⟩,
        ⟨some 40, .none, true, 4, .pick (.tmp 29) (.const (.bool true)) (.tmp 39)⟩])
    (.keep [1, 40]
    (.cond (.tmp 40)
      (.seq
        (.region [⟨some 4, .none, true, 4, .assign (.const (.bool false))⟩])
      .ret)
      .skip)))
  (.seq
    (.region [⟨some 42, .none, true, 27, .move (.tmp 1)⟩,
      ⟨some 43, .none, true, 36, .call { callee := .value (.func 20), args := #[.tmp 42], argTypes := #[27] }⟩,
      ⟨some 41, .none, true, 36, .move (.tmp 43)⟩,
      ⟨some 44, .none, true, 34, .extract (.tmp 41) 0⟩,
      ⟨some 45, .none, true, 4, .extract (.tmp 41) 1⟩,
      ⟨some 9, .none, true, 0, .alloc 34⟩,
      ⟨none, .none, true, 0, .store 34 (.tmp 9) (.tmp 44)⟩,
      ⟨some 10, .none, true, 4, .assign (.tmp 45)⟩])
  (.keep [1, 9, 10]
  (.seq
    (.region [⟨some 47, .none, true, 34, .load 34 (.tmp 9)⟩,
      ⟨some 48, .none, true, 28, .call { callee := .value (.func 19), args := #[.tmp 47], argTypes := #[34] }⟩,
      ⟨some 46, .none, true, 28, .move (.tmp 48)⟩,
      ⟨some 49, .none, true, 27, .extract (.tmp 46) 0⟩,
      ⟨some 50, .none, true, 4, .extract (.tmp 46) 1⟩,
      ⟨some 11, .none, true, 27, .assign (.tmp 49)⟩,
      ⟨some 12, .none, true, 4, .assign (.tmp 50)⟩])
  (.keep [1, 9, 10, 11, 12]
  (.seq
    (.region [⟨some 51, .none, true, 4, .move (.tmp 10)⟩,
      ⟨some 52, .none, true, 4, .unOp .not 4 (.tmp 51)⟩,
      ⟨some 53, .none, true, 4, .move (.tmp 52)⟩,
      ⟨some 54, .some 53 true, true, 34, .load 34 (.tmp 9)⟩,
      ⟨some 55, .some 53 true, true, 34, .build 34 #[]⟩,
      ⟨some 56, .some 53 true, true, 4, .binOp .eql 34 (.tmp 54) (.tmp 55) 34⟩,
      ⟨some 57, .none, true, 4, .pick (.tmp 53) (.tmp 56) (.const (.bool false))⟩,
      ⟨some 58, .none, true, 4, .move (.tmp 57)⟩,
      ⟨some 59, .some 58 false, true, 4, .move (.tmp 10)⟩,
      ⟨some 60, .some 58 false, true, 4, .move (.tmp 59)⟩,
      ⟨some 61, .some 60 true, true, 4, .move (.tmp 12)⟩,
      ⟨some 62, .some 58 false, true, 4, .pick (.tmp 60) (.tmp 61) (.const (.bool false))⟩,
      ⟨some 63, .some 58 false, true, 4, .move (.tmp 62)⟩,
      ⟨some 64, .some 63 true, true, 27, .move (.tmp 11)⟩,
      ⟨some 65, .some 63 true, true, 27, .move (.tmp 1)⟩,
      ⟨some 66, .some 63 true, true, 4, .binOp .eql 27 (.tmp 64) (.tmp 65) 27⟩,
      ⟨some 67, .some 58 false, true, 4, .pick (.tmp 63) (.tmp 66) (.const (.bool false))⟩,
      ⟨some 68, .none, true, 4, .pick (.tmp 58) (.const (.bool true)) (.tmp 67)⟩,
      ⟨some 4, .none, true, 4, .assign (.tmp 68)⟩])
  .ret)))))))))))))
theorem t_reevelaw8_CapBack : FnT Tryd.prog f_reevelaw8_CapBack rc_reevelaw8_CapBack [.tmp 4] 2 := ⟨⟨[], Tryd.f4, _, Tryd.func4, rfl, by kernel_rfl, by kernel_rfl, by kernel_rfl, rfl, by decide⟩, by kernel_rfl⟩
/-- reeve/reevelaw8.CapCuts -/
abbrev f_reevelaw8_CapCuts : FuncId := 5
def rc_reevelaw8_CapCuts : RCode :=
  (.seq
    (.region [⟨some 3, .none, true, 0, .box 34 (.tmp 0)⟩,
      ⟨some 6, .none, true, 4, .assign (.const (.bool false))⟩])
  (.keep [1, 2, 3]
  (.seq
    (.seq
      (.region [⟨some 7, .none, true, 4, .call { callee := .value (.func 18), args := #[], argTypes := #[] }⟩,
        ⟨some 8, .none, true, 4, .unOp .not 4 (.tmp 7)⟩])
    (.keep [1, 2, 3, 8]
    (.cond (.tmp 8)
      (.seq
        (.region [⟨some 6, .none, true, 4, .assign (.const (.bool false))⟩])
      .ret)
      .skip)))
  (.seq
    (.seq
      (.region [⟨some 9, .none, true, 34, .load 34 (.tmp 3)⟩,
        ⟨some 10, .none, true, 4, .call { callee := .value (.func 21), args := #[.tmp 9], argTypes := #[34] }⟩,
        ⟨some 11, .none, true, 4, .unOp .not 4 (.tmp 10)⟩,
        ⟨some 12, .none, true, 4, .move (.tmp 11)⟩,
        ⟨some 13, .some 12 false, true, 3, .move (.tmp 1)⟩,
        ⟨some 14, .some 12 false, true, 4, .binOp .lss 3 (.tmp 13) (.const (.int .i64 0)) 3⟩,
        ⟨some 15, .none, true, 4, .pick (.tmp 12) (.const (.bool true)) (.tmp 14)⟩,
        ⟨some 16, .none, true, 4, .move (.tmp 15)⟩,
        ⟨some 17, .some 16 false, true, 3, .move (.tmp 1)⟩,
        ⟨some 18, .some 16 false, true, 4, .binOp .gtr 3 (.tmp 17) (.const (.int .i64 7)) 3⟩,
        ⟨some 19, .none, true, 4, .pick (.tmp 16) (.const (.bool true)) (.tmp 18)⟩,
        ⟨some 20, .none, true, 4, .move (.tmp 19)⟩,
        ⟨some 21, .some 20 false, true, 3, .move (.tmp 2)⟩,
        ⟨some 22, .some 20 false, true, 4, .binOp .lss 3 (.tmp 21) (.const (.int .i64 0)) 3⟩,
        ⟨some 23, .none, true, 4, .pick (.tmp 20) (.const (.bool true)) (.tmp 22)⟩,
        ⟨some 24, .none, true, 4, .move (.tmp 23)⟩,
        ⟨some 25, .some 24 false, true, 3, .move (.tmp 2)⟩,
        ⟨some 26, .some 24 false, true, 4, .binOp .gtr 3 (.tmp 25) (.const (.int .i64 7)) 3⟩,
        ⟨some 27, .none, true, 4, .pick (.tmp 24) (.const (.bool true)) (.tmp 26)⟩])
    (.keep [1, 2, 3, 27]
    (.cond (.tmp 27)
      (.seq
        (.region [⟨some 6, .none, true, 4, .assign (.const (.bool true))⟩])
      .ret)
      .skip)))
  (.seq
    (.region [⟨some 28, .none, false, 34, .load 34 (.tmp 3)⟩,
      ⟨some 29, .none, false, 3, .move (.tmp 1)⟩,
      ⟨some 30, .none, false, 34, .call { callee := .value (.func 22), args := #[.tmp 28, .tmp 29], argTypes := #[34, 3] }⟩,
      ⟨some 31, .none, false, 3, .move (.tmp 2)⟩,
      ⟨some 32, .none, false, 34, .call { callee := .value (.func 22), args := #[.tmp 30, .tmp 31], argTypes := #[34, 3] }⟩,
      ⟨some 33, .none, false, 34, .load 34 (.tmp 3)⟩,
      ⟨some 34, .none, false, 3, .move (.tmp 1)⟩,
      ⟨some 35, .none, false, 3, .move (.tmp 2)⟩,
      ⟨some 36, .none, false, 3, .binOp .and 3 (.tmp 34) (.tmp 35) 3⟩,
      ⟨some 37, .none, true, 34, .call { callee := .value (.func 22), args := #[.tmp 33, .tmp 36], argTypes := #[34, 3] }⟩,
      ⟨some 38, .none, true, 4, .binOp .eql 34 (.tmp 32) (.tmp 37) 34⟩,
      ⟨some 39, .none, true, 4, .move (.tmp 38)⟩,
      ⟨some 40, .some 39 true, false, 34, .load 34 (.tmp 3)⟩,
      ⟨some 41, .some 39 true, false, 34, .call { callee := .value (.func 22), args := #[.tmp 40, .const (.int .i64 7)], argTypes := #[34, 3] }⟩,
      ⟨some 42, .some 39 true, false, 34, .load 34 (.tmp 3)⟩,
      ⟨some 43, .some 39 true, true, 4, .binOp .eql 34 (.tmp 41) (.tmp 42) 34⟩,
      ⟨some 44, .none, true, 4, .pick (.tmp 39) (.tmp 43) (.const (.bool false))⟩,
      ⟨some 45, .none, true, 4, .move (.tmp 44)⟩,
      ⟨some 46, .some 45 true, true, 34, .load 34 (.tmp 3)⟩,
      ⟨some 47, .some 45 true, false, 3, .move (.tmp 1)⟩,
      ⟨some 48, .some 45 true, true, 34, .call { callee := .value (.func 22), args := #[.tmp 46, .tmp 47], argTypes := #[34, 3] }⟩,
      ⟨some 49, .some 45 true, true, 4, .call { callee := .value (.func 21), args := #[.tmp 48], argTypes := #[34] }⟩,
      ⟨some 50, .none, true, 4, .pick (.tmp 45) (.tmp 49) (.const (.bool false))⟩,
      ⟨some 51, .none, true, 4, .move (.tmp 50)⟩,
      ⟨some 52, .some 51 true, true, 34, .load 34 (.tmp 3)⟩,
      ⟨some 53, .some 51 true, false, 3, .move (.tmp 1)⟩,
      ⟨some 54, .some 51 true, true, 34, .call { callee := .value (.func 22), args := #[.tmp 52, .tmp 53], argTypes := #[34, 3] }⟩,
      ⟨some 55, .some 51 true, true, 3, .field 34 (.tmp 54) 2⟩,
      ⟨some 56, .some 51 true, false, 3, .move (.tmp 1)⟩,
      ⟨some 57, .some 51 true, true, 3, .binOp .andNot 3 (.tmp 55) (.tmp 56) 3⟩,
      ⟨some 58, .some 51 true, true, 4, .binOp .eql 3 (.tmp 57) (.const (.int .i64 0)) 3⟩,
      ⟨some 59, .none, true, 4, .pick (.tmp 51) (.tmp 58) (.const (.bool false))⟩,
      ⟨some 6, .none, true, 4, .assign (.tmp 59)⟩])
  .ret)))))
theorem t_reevelaw8_CapCuts : FnT Tryd.prog f_reevelaw8_CapCuts rc_reevelaw8_CapCuts [.tmp 6] 3 := ⟨⟨[], Tryd.f5, _, Tryd.func5, rfl, by kernel_rfl, by kernel_rfl, by kernel_rfl, rfl, by decide⟩, by kernel_rfl⟩
/-- reeve/reevelaw8.CapKnown -/
abbrev f_reevelaw8_CapKnown : FuncId := 6
def rc_reevelaw8_CapKnownl0 : RCode :=
  (.seq
    (.seq
      (.region [⟨some 39, .none, true, 3, .move (.tmp 2)⟩,
        ⟨some 40, .none, true, 42, .move (.tmp 1)⟩,
        ⟨some 41, .none, true, 3, .call { callee := .builtin .len, args := #[.tmp 40], argTypes := #[42] }⟩,
        ⟨some 42, .none, true, 4, .binOp .lss 3 (.tmp 39) (.tmp 41) 3⟩])
    (.keep [1, 2, 42]
    (.cond (.tmp 42)
      .skip
      (.exit 0))))
  (.seq
    (.block 1
      (.seq
        (.region [⟨some 46, .none, true, 42, .move (.tmp 1)⟩,
          ⟨some 47, .none, true, 3, .move (.tmp 2)⟩,
          ⟨some 48, .none, true, 0, .indexAddr 42 (.tmp 46) (.tmp 47)⟩,
          ⟨some 49, .none, true, 34, .load 34 (.tmp 48)⟩,
          ⟨some 50, .none, true, 28, .call { callee := .value (.func 19), args := #[.tmp 49], argTypes := #[34] }⟩,
          ⟨some 45, .none, true, 28, .move (.tmp 50)⟩,
          ⟨some 51, .none, true, 27, .extract (.tmp 45) 0⟩,
          ⟨some 52, .none, true, 4, .extract (.tmp 45) 1⟩,
          ⟨some 3, .none, true, 27, .assign (.tmp 51)⟩,
          ⟨some 4, .none, true, 4, .assign (.tmp 52)⟩])
      (.keep [1, 2, 3, 4]
      (.seq
        (.region [⟨some 54, .none, true, 42, .move (.tmp 1)⟩,
          ⟨some 55, .none, true, 3, .move (.tmp 2)⟩,
          ⟨some 56, .none, true, 0, .indexAddr 42 (.tmp 54) (.tmp 55)⟩,
          ⟨some 57, .none, true, 34, .load 34 (.tmp 56)⟩,
          ⟨some 58, .none, true, 44, .call { callee := .value (.func 23), args := #[.tmp 57, .const (.int .i64 1)], argTypes := #[34, 3] }⟩,
          ⟨some 53, .none, true, 44, .move (.tmp 58)⟩,
          ⟨some 59, .none, true, 34, .extract (.tmp 53) 0⟩,
          ⟨some 60, .none, true, 43, .extract (.tmp 53) 1⟩,
          ⟨some 5, .none, true, 0, .alloc 34⟩,
          ⟨none, .none, true, 0, .store 34 (.tmp 5) (.tmp 59)⟩,
          ⟨some 6, .none, true, 43, .assign (.tmp 60)⟩])
      (.keep [1, 2, 3, 4, 6]
      (.seq
        (.region [⟨some 61, .none, true, 4, .move (.tmp 4)⟩,
          ⟨some 62, .none, true, 4, .move (.tmp 61)⟩,
          ⟨some 63, .some 62 false, true, 27, .move (.tmp 3)⟩,
          ⟨some 64, .some 62 false, true, 4, .binOp .neq 27 (.tmp 63) (.const (.int .u64 0)) 27⟩,
          ⟨some 65, .none, true, 4, .pick (.tmp 62) (.const (.bool true)) (.tmp 64)⟩,
          ⟨some 66, .none, true, 4, .move (.tmp 65)⟩,
          ⟨some 67, .some 66 false, true, 42, .move (.tmp 1)⟩,
          ⟨some 68, .some 66 false, true, 3, .move (.tmp 2)⟩,
          ⟨some 69, .some 66 false, true, 0, .indexAddr 42 (.tmp 67) (.tmp 68)⟩,
          ⟨some 70, .some 66 false, true, 34, .load 34 (.tmp 69)⟩,
          ⟨some 71, .some 66 false, true, 4, .call { callee := .value (.func 21), args := #[.tmp 70], argTypes := #[34] }⟩,
          ⟨some 72, .none, true, 4, .pick (.tmp 66) (.const (.bool true)) (.tmp 71)⟩,
          ⟨some 73, .none, true, 4, .move (.tmp 72)⟩,
          ⟨some 74, .some 73 false, true, 42, .move (.tmp 1)⟩,
          ⟨some 75, .some 73 false, true, 3, .move (.tmp 2)⟩,
          ⟨some 76, .some 73 false, true, 0, .indexAddr 42 (.tmp 74) (.tmp 75)⟩,
          ⟨some 77, .some 73 false, true, 34, .load 34 (.tmp 76)⟩,
          ⟨some 78, .some 73 false, true, 9, .call { callee := .value (.func 24), args := #[.tmp 77], argTypes := #[34] }⟩,
          ⟨some 79, .some 73 false, true, 4, .binOp .neq 9 (.tmp 78) (.const (.string { data := #[] })) 9⟩,
          ⟨some 80, .none, true, 4, .pick (.tmp 73) (.const (.bool true)) (.tmp 79)⟩,
          ⟨some 81, .none, true, 4, .move (.tmp 80)⟩,
          ⟨some 82, .some 81 false, true, 42, .move (.tmp 1)⟩,
          ⟨some 83, .some 81 false, true, 3, .move (.tmp 2)⟩,
          ⟨some 84, .some 81 false, true, 0, .indexAddr 42 (.tmp 82) (.tmp 83)⟩,
          ⟨some 85, .some 81 false, true, 34, .load 34 (.tmp 84)⟩,
          ⟨some 86, .some 81 false, true, 34, .call { callee := .value (.func 22), args := #[.tmp 85, .const (.int .i64 7)], argTypes := #[34, 3] }⟩,
          ⟨some 87, .some 81 false, true, 34, .build 34 #[]⟩,
          ⟨some 88, .some 81 false, true, 4, .binOp .neq 34 (.tmp 86) (.tmp 87) 34⟩,
          ⟨some 89, .none, true, 4, .pick (.tmp 81) (.const (.bool true)) (.tmp 88)⟩,
          ⟨some 90, .none, true, 4, .move (.tmp 89)⟩,
          ⟨some 91, .some 90 false, true, 43, .move (.tmp 6)⟩,
          ⟨some 92, .some 90 false, true, 4, .binOp .neq 43 (.tmp 91) (.const (.int .i64 1)) 43⟩,
          ⟨some 93, .none, true, 4, .pick (.tmp 90) (.const (.bool true)) (.tmp 92)⟩])
      (.keep [1, 2, 93]
      (.cond (.tmp 93)
        (.seq
          (.region [⟨some 0, .none, true, 4, .assign (.const (.bool false))⟩])
        .ret)
        .skip))))))))
  (.keep [1, 2]
  (.region [⟨some 43, .none, true, 3, .move (.tmp 2)⟩,
    ⟨some 44, .none, true, 3, .binOp .add 3 (.tmp 43) (.const (.int .i64 1)) 3⟩,
    ⟨some 2, .none, true, 3, .assign (.tmp 44)⟩]))))
def rc_reevelaw8_CapKnown : RCode :=
  (.seq
    (.region [⟨some 0, .none, true, 4, .assign (.const (.bool false))⟩])
  (.keep []
  (.seq
    (.seq
      (.region [⟨some 27, .none, true, 4, .call { callee := .value (.func 18), args := #[], argTypes := #[] }⟩,
        ⟨some 28, .none, true, 4, .unOp .not 4 (.tmp 27)⟩])
    (.keep [28]
    (.cond (.tmp 28)
      (.seq
        (.region [⟨some 0, .none, true, 4, .assign (.const (.bool false))⟩])
      .ret)
      .skip)))
  (.seq
    (.region [⟨some 29, .none, true, 34, .build 34 #[(0, .const (.int .i64 6))]⟩,
      ⟨some 30, .none, true, 34, .build 34 #[(0, .const (.int .i64 (-1)))]⟩,
      ⟨some 31, .none, true, 34, .build 34 #[(1, .const (.int .i64 1))]⟩,
      ⟨some 32, .none, true, 34, .build 34 #[(0, .const (.int .i64 1)), (1, .const (.int .i64 48))]⟩,
      ⟨some 33, .none, true, 34, .build 34 #[(0, .const (.int .i64 1)), (1, .const (.int .i64 (-1)))]⟩,
      ⟨some 34, .none, true, 34, .build 34 #[(0, .const (.int .i64 2)), (2, .const (.int .i64 8))]⟩,
      ⟨some 35, .none, true, 34, .build 34 #[(0, .const (.int .i64 3)), (3, .const (.int .i64 65536))]⟩,
      ⟨some 36, .none, true, 34, .build 34 #[(0, .const (.int .i64 5)), (3, .const (.int .i64 1))]⟩,
      ⟨some 37, .none, true, 34, .build 34 #[(2, .const (.int .i64 1))]⟩,
      ⟨some 38, .none, true, 42, .buildSlice 42 9 #[(0, .tmp 29), (1, .tmp 30), (2, .tmp 31), (3, .tmp 32), (4, .tmp 33), (5, .tmp 34), (6, .tmp 35), (7, .tmp 36), (8, .tmp 37)]⟩,
      ⟨some 1, .none, true, 42, .assign (.tmp 38)⟩])
  (.keep [1]
  (.seq
    (.seq
      (.region [⟨some 2, .none, true, 3, .assign (.const (.int .i64 0))⟩])
    (.keep [1, 2]
    (.block 0
      (.loop [1, 2] rc_reevelaw8_CapKnownl0))))
  (.seq
    (.region [⟨some 94, .none, true, 34, .build 34 #[(0, .const (.int .i64 3)), (1, .const (.int .i64 5)), (2, .const (.int .i64 6))]⟩,
      ⟨some 95, .none, true, 34, .build 34 #[(0, .const (.int .i64 3)), (1, .const (.int .i64 5)), (2, .const (.int .i64 2)), (3, .const (.int .i64 9))]⟩,
      ⟨some 7, .none, true, 0, .alloc 34⟩,
      ⟨some 8, .none, true, 0, .alloc 34⟩,
      ⟨none, .none, true, 0, .store 34 (.tmp 7) (.tmp 94)⟩,
      ⟨none, .none, true, 0, .store 34 (.tmp 8) (.tmp 95)⟩])
  (.keep [7, 8]
  (.seq
    (.region [⟨some 97, .none, true, 34, .load 34 (.tmp 7)⟩,
      ⟨some 98, .none, true, 44, .call { callee := .value (.func 23), args := #[.tmp 97, .const (.int .i64 9)], argTypes := #[34, 3] }⟩,
      ⟨some 96, .none, true, 44, .move (.tmp 98)⟩,
      ⟨some 99, .none, true, 34, .extract (.tmp 96) 0⟩,
      ⟨some 100, .none, true, 43, .extract (.tmp 96) 1⟩,
      ⟨some 9, .none, true, 0, .alloc 34⟩,
      ⟨none, .none, true, 0, .store 34 (.tmp 9) (.tmp 99)⟩,
      ⟨some 10, .none, true, 43, .assign (.tmp 100)⟩])
  (.keep [7, 8, 9, 10]
  (.seq
    (.region [⟨some 102, .none, true, 34, .load 34 (.tmp 7)⟩,
      ⟨some 103, .none, true, 44, .call { callee := .value (.func 23), args := #[.tmp 102, .const (.int .i64 0)], argTypes := #[34, 3] }⟩,
      ⟨some 101, .none, true, 44, .move (.tmp 103)⟩,
      ⟨some 104, .none, true, 34, .extract (.tmp 101) 0⟩,
      ⟨some 105, .none, true, 43, .extract (.tmp 101) 1⟩,
      ⟨some 11, .none, true, 0, .alloc 34⟩,
      ⟨none, .none, true, 0, .store 34 (.tmp 11) (.tmp 104)⟩,
      ⟨some 12, .none, true, 43, .assign (.tmp 105)⟩])
  (.keep [7, 8, 9, 10, 12]
  (.seq
    (.region [⟨some 107, .none, true, 34, .build 34 #[(0, .const (.int .i64 5))]⟩,
      ⟨some 108, .none, true, 44, .call { callee := .value (.func 23), args := #[.tmp 107, .const (.int .i64 9)], argTypes := #[34, 3] }⟩,
      ⟨some 106, .none, true, 44, .move (.tmp 108)⟩,
      ⟨some 109, .none, true, 34, .extract (.tmp 106) 0⟩,
      ⟨some 110, .none, true, 43, .extract (.tmp 106) 1⟩,
      ⟨some 13, .none, true, 0, .alloc 34⟩,
      ⟨none, .none, true, 0, .store 34 (.tmp 13) (.tmp 109)⟩,
      ⟨some 14, .none, true, 43, .assign (.tmp 110)⟩])
  (.keep [7, 8, 9, 10, 12, 14]
  (.seq
    (.region [⟨some 112, .none, true, 34, .load 34 (.tmp 8)⟩,
      ⟨some 113, .none, true, 44, .call { callee := .value (.func 23), args := #[.tmp 112, .const (.int .i64 9)], argTypes := #[34, 3] }⟩,
      ⟨some 111, .none, true, 44, .move (.tmp 113)⟩,
      ⟨some 114, .none, true, 34, .extract (.tmp 111) 0⟩,
      ⟨some 115, .none, true, 43, .extract (.tmp 111) 1⟩,
      ⟨some 15, .none, true, 0, .alloc 34⟩,
      ⟨none, .none, true, 0, .store 34 (.tmp 15) (.tmp 114)⟩,
      ⟨some 16, .none, true, 43, .assign (.tmp 115)⟩])
  (.keep [7, 8, 9, 10, 12, 14, 16]
  (.seq
    (.region [⟨some 117, .none, true, 34, .build 34 #[]⟩,
      ⟨some 118, .none, true, 44, .call { callee := .value (.func 23), args := #[.tmp 117, .const (.int .i64 9)], argTypes := #[34, 3] }⟩,
      ⟨some 116, .none, true, 44, .move (.tmp 118)⟩,
      ⟨some 119, .none, true, 34, .extract (.tmp 116) 0⟩,
      ⟨some 120, .none, true, 43, .extract (.tmp 116) 1⟩,
      ⟨some 17, .none, true, 0, .alloc 34⟩,
      ⟨none, .none, true, 0, .store 34 (.tmp 17) (.tmp 119)⟩,
      ⟨some 18, .none, true, 43, .assign (.tmp 120)⟩])
  (.keep [7, 8, 9, 10, 12, 14, 16, 18]
  (.seq
    (.region [⟨some 122, .none, true, 34, .load 34 (.tmp 8)⟩,
      ⟨some 123, .none, true, 28, .call { callee := .value (.func 19), args := #[.tmp 122], argTypes := #[34] }⟩,
      ⟨some 121, .none, true, 28, .move (.tmp 123)⟩,
      ⟨some 124, .none, true, 27, .extract (.tmp 121) 0⟩,
      ⟨some 125, .none, true, 4, .extract (.tmp 121) 1⟩,
      ⟨some 19, .none, true, 27, .assign (.tmp 124)⟩,
      ⟨some 20, .none, true, 4, .assign (.tmp 125)⟩])
  (.keep [7, 8, 9, 10, 12, 14, 16, 18, 19]
  (.seq
    (.region [⟨some 127, .none, true, 27, .move (.tmp 19)⟩,
      ⟨some 128, .none, true, 27, .binOp .or 27 (.tmp 127) (.const (.int .u64 281474976710656)) 27⟩,
      ⟨some 129, .none, true, 36, .call { callee := .value (.func 20), args := #[.tmp 128], argTypes := #[27] }⟩,
      ⟨some 126, .none, true, 36, .move (.tmp 129)⟩,
      ⟨some 130, .none, true, 34, .extract (.tmp 126) 0⟩,
      ⟨some 131, .none, true, 4, .extract (.tmp 126) 1⟩,
      ⟨some 21, .none, true, 0, .alloc 34⟩,
      ⟨none, .none, true, 0, .store 34 (.tmp 21) (.tmp 130)⟩,
      ⟨some 22, .none, true, 4, .assign (.tmp 131)⟩])
  (.keep [7, 8, 9, 10, 12, 14, 16, 18, 19, 22]
  (.seq
    (.region [⟨some 133, .none, true, 36, .call { callee := .value (.func 20), args := #[.const (.int .u64 6)], argTypes := #[27] }⟩,
      ⟨some 132, .none, true, 36, .move (.tmp 133)⟩,
      ⟨some 134, .none, true, 34, .extract (.tmp 132) 0⟩,
      ⟨some 135, .none, true, 4, .extract (.tmp 132) 1⟩,
      ⟨some 23, .none, true, 0, .alloc 34⟩,
      ⟨none, .none, true, 0, .store 34 (.tmp 23) (.tmp 134)⟩,
      ⟨some 24, .none, true, 4, .assign (.tmp 135)⟩])
  (.keep [7, 8, 9, 10, 12, 14, 16, 18, 19, 22, 24]
  (.seq
    (.region [⟨some 137, .none, true, 36, .call { callee := .value (.func 20), args := #[.const (.int .u64 0)], argTypes := #[27] }⟩,
      ⟨some 136, .none, true, 36, .move (.tmp 137)⟩,
      ⟨some 138, .none, true, 34, .extract (.tmp 136) 0⟩,
      ⟨some 139, .none, true, 4, .extract (.tmp 136) 1⟩,
      ⟨some 25, .none, true, 0, .alloc 34⟩,
      ⟨none, .none, true, 0, .store 34 (.tmp 25) (.tmp 138)⟩,
      ⟨some 26, .none, true, 4, .assign (.tmp 139)⟩])
  (.keep [7, 8, 9, 10, 12, 14, 16, 18, 19, 22, 24, 25, 26]
  (.seq
    (.region [⟨some 140, .none, true, 43, .move (.tmp 10)⟩,
      ⟨some 141, .none, true, 4, .binOp .eql 43 (.tmp 140) (.const (.int .i64 0)) 43⟩,
      ⟨some 142, .none, true, 4, .move (.tmp 141)⟩,
      ⟨some 143, .some 142 true, true, 34, .load 34 (.tmp 9)⟩,
      ⟨some 144, .some 142 true, true, 34, .build 34 #[(0, .const (.int .i64 3)), (1, .const (.int .i64 5)), (2, .const (.int .i64 6)), (3, .const (.int .i64 9))]⟩,
      ⟨some 145, .some 142 true, true, 4, .binOp .eql 34 (.tmp 143) (.tmp 144) 34⟩,
      ⟨some 146, .none, true, 4, .pick (.tmp 142) (.tmp 145) (.const (.bool false))⟩,
      ⟨some 147, .none, true, 4, .move (.tmp 146)⟩,
      ⟨some 148, .some 147 true, true, 43, .move (.tmp 12)⟩,
      ⟨some 149, .some 147 true, true, 4, .binOp .eql 43 (.tmp 148) (.const (.int .i64 1)) 43⟩,
      ⟨some 150, .none, true, 4, .pick (.tmp 147) (.tmp 149) (.const (.bool false))⟩,
      ⟨some 151, .none, true, 4, .move (.tmp 150)⟩,
      ⟨some 152, .some 151 true, true, 43, .move (.tmp 14)⟩,
      ⟨some 153, .some 151 true, true, 4, .binOp .eql 43 (.tmp 152) (.const (.int .i64 7)) 43⟩,
      ⟨some 154, .none, true, 4, .pick (.tmp 151) (.tmp 153) (.const (.bool false))⟩,
      ⟨some 155, .none, true, 4, .move (.tmp 154)⟩,
      ⟨some 156, .some 155 true, true, 43, .move (.tmp 16)⟩,
      ⟨some 157, .some 155 true, true, 4, .binOp .eql 43 (.tmp 156) (.const (.int .i64 5)) 43⟩,
      ⟨some 158, .none, true, 4, .pick (.tmp 155) (.tmp 157) (.const (.bool false))⟩,
      ⟨some 159, .none, true, 4, .move (.tmp 158)⟩,
      ⟨some 160, .some 159 true, true, 43, .move (.tmp 18)⟩,
      ⟨some 161, .some 159 true, true, 4, .binOp .eql 43 (.tmp 160) (.const (.int .i64 7)) 43⟩,
      ⟨some 162, .none, true, 4, .pick (.tmp 159) (.tmp 161) (.const (.bool false))⟩,
      ⟨some 163, .none, true, 4, .move (.tmp 162)⟩,
      ⟨some 164, .some 163 true, true, 27, .move (.tmp 19)⟩,
      ⟨some 165, .some 163 true, true, 4, .binOp .eql 27 (.tmp 164) (.const (.int .u64 21475426819)) 27⟩,
      ⟨some 166, .none, true, 4, .pick (.tmp 163) (.tmp 165) (.const (.bool false))⟩,
      ⟨some 167, .none, true, 4, .move (.tmp 166)⟩,
      ⟨some 168, .some 167 true, true, 4, .move (.tmp 22)⟩,
      ⟨some 169, .some 167 true, true, 4, .unOp .not 4 (.tmp 168)⟩,
      ⟨some 170, .none, true, 4, .pick (.tmp 167) (.tmp 169) (.const (.bool false))⟩,
      ⟨some 171, .none, true, 4, .move (.tmp 170)⟩,
      ⟨some 172, .some 171 true, true, 4, .move (.tmp 24)⟩,
      ⟨some 173, .some 171 true, true, 4, .unOp .not 4 (.tmp 172)⟩,
      ⟨some 174, .none, true, 4, .pick (.tmp 171) (.tmp 173) (.const (.bool false))⟩,
      ⟨some 175, .none, true, 4, .move (.tmp 174)⟩,
      ⟨some 176, .some 175 true, true, 4, .move (.tmp 26)⟩,
      ⟨some 177, .none, true, 4, .pick (.tmp 175) (.tmp 176) (.const (.bool false))⟩,
      ⟨some 178, .none, true, 4, .move (.tmp 177)⟩,
      ⟨some 179, .some 178 true, true, 34, .load 34 (.tmp 25)⟩,
      ⟨some 180, .some 178 true, true, 4, .call { callee := .value (.func 25), args := #[.tmp 179], argTypes := #[34] }⟩,
      ⟨some 181, .none, true, 4, .pick (.tmp 178) (.tmp 180) (.const (.bool false))⟩,
      ⟨some 182, .none, true, 4, .move (.tmp 181)⟩,
      ⟨some 183, .some 182 true, true, 34, .load 34 (.tmp 25)⟩,
      ⟨some 184, .some 182 true, true, 9, .call { callee := .value (.func 24), args := #[.tmp 183], argTypes := #[34] }⟩,
      ⟨some 185, .some 182 true, true, 4, .binOp .eql 9 (.tmp 184) (.const (.string { data := #[45] })) 9⟩,
      ⟨some 186, .none, true, 4, .pick (.tmp 182) (.tmp 185) (.const (.bool false))⟩,
      ⟨some 187, .none, true, 4, .move (.tmp 186)⟩,
      ⟨some 188, .some 187 true, true, 34, .load 34 (.tmp 8)⟩,
      ⟨some 189, .some 187 true, true, 34, .load 34 (.tmp 7)⟩,
      ⟨some 190, .some 187 true, true, 4, .call { callee := .value (.func 26), args := #[.tmp 188, .tmp 189], argTypes := #[34, 34] }⟩,
      ⟨some 191, .none, true, 4, .pick (.tmp 187) (.tmp 190) (.const (.bool false))⟩,
      ⟨some 192, .none, true, 4, .move (.tmp 191)⟩,
      ⟨some 193, .some 192 true, true, 34, .load 34 (.tmp 7)⟩,
      ⟨some 194, .some 192 true, true, 34, .load 34 (.tmp 8)⟩,
      ⟨some 195, .some 192 true, true, 4, .call { callee := .value (.func 26), args := #[.tmp 193, .tmp 194], argTypes := #[34, 34] }⟩,
      ⟨some 196, .some 192 true, true, 4, .unOp .not 4 (.tmp 195)⟩,
      ⟨some 197, .none, true, 4, .pick (.tmp 192) (.tmp 196) (.const (.bool false))⟩,
      ⟨some 198, .none, true, 4, .move (.tmp 197)⟩,
      ⟨some 199, .some 198 true, true, 34, .load 34 (.tmp 25)⟩,
      ⟨some 200, .some 198 true, true, 34, .load 34 (.tmp 8)⟩,
      ⟨some 201, .some 198 true, true, 4, .call { callee := .value (.func 26), args := #[.tmp 199, .tmp 200], argTypes := #[34, 34] }⟩,
      ⟨some 202, .none, true, 4, .pick (.tmp 198) (.tmp 201) (.const (.bool false))⟩,
      ⟨some 203, .none, true, 4, .move (.tmp 202)⟩,
      ⟨some 204, .some 203 true, true, 34, .load 34 (.tmp 8)⟩,
      ⟨some 205, .some 203 true, true, 34, .load 34 (.tmp 25)⟩,
      ⟨some 206, .some 203 true, true, 4, .call { callee := .value (.func 26), args := #[.tmp 204, .tmp 205], argTypes := #[34, 34] }⟩,
      ⟨some 207, .some 203 true, true, 4, .unOp .not 4 (.tmp 206)⟩,
      ⟨some 208, .none, true, 4, .pick (.tmp 203) (.tmp 207) (.const (.bool false))⟩,
      ⟨some 209, .none, true, 4, .move (.tmp 208)⟩,
      ⟨some 210, .some 209 true, true, 34, .build 34 #[(0, .const (.int .i64 3)), (1, .const (.int .i64 5)), (3, .const (.int .i64 8))]⟩,
      ⟨some 211, .some 209 true, true, 34, .load 34 (.tmp 8)⟩,
      ⟨some 212, .some 209 true, true, 4, .call { callee := .value (.func 26), args := #[.tmp 210, .tmp 211], argTypes := #[34, 34] }⟩,
      ⟨some 213, .some 209 true, true, 4, .unOp .not 4 (.tmp 212)⟩,
      ⟨some 214, .none, true, 4, .pick (.tmp 209) (.tmp 213) (.const (.bool false))⟩,
      ⟨some 215, .none, true, 4, .move (.tmp 214)⟩,
      ⟨some 216, .some 215 true, true, 34, .load 34 (.tmp 7)⟩,
      ⟨some 217, .some 215 true, true, 34, .call { callee := .value (.func 22), args := #[.tmp 216, .const (.int .i64 3)], argTypes := #[34, 3] }⟩,
      ⟨some 218, .some 215 true, true, 34, .build 34 #[(0, .const (.int .i64 3)), (1, .const (.int .i64 5)), (2, .const (.int .i64 2))]⟩,
      ⟨some 219, .some 215 true, true, 4, .binOp .eql 34 (.tmp 217) (.tmp 218) 34⟩,
      ⟨some 220, .none, true, 4, .pick (.tmp 215) (.tmp 219) (.const (.bool false))⟩,
      ⟨some 0, .none, true, 4, .assign (.tmp 220)⟩])
  .ret)))))))))))))))))))))))))))
theorem t_reevelaw8_CapKnown : FnT Tryd.prog f_reevelaw8_CapKnown rc_reevelaw8_CapKnown [.tmp 0] 0 := ⟨⟨[], Tryd.f6, _, Tryd.func6, rfl, by kernel_rfl, by kernel_rfl, by kernel_rfl, rfl, by decide⟩, by kernel_rfl⟩
/-- reeve/reevelaw8.CapLess -/
abbrev f_reevelaw8_CapLess : FuncId := 8
def rc_reevelaw8_CapLess : RCode :=
  (.seq
    (.region [⟨some 5, .none, true, 0, .box 34 (.tmp 0)⟩,
      ⟨some 6, .none, true, 0, .box 34 (.tmp 1)⟩,
      ⟨some 7, .none, true, 0, .box 34 (.tmp 2)⟩,
      ⟨some 10, .none, true, 4, .assign (.const (.bool false))⟩])
  (.keep [3, 4, 5, 6, 7]
  (.seq
    (.seq
      (.region [⟨some 13, .none, true, 4, .call { callee := .value (.func 18), args := #[], argTypes := #[] }⟩,
        ⟨some 14, .none, true, 4, .unOp .not 4 (.tmp 13)⟩])
    (.keep [3, 4, 5, 6, 7, 14]
    (.cond (.tmp 14)
      (.seq
        (.region [⟨some 10, .none, true, 4, .assign (.const (.bool false))⟩])
      .ret)
      .skip)))
  (.seq
    (.seq
      (.region [⟨some 15, .none, true, 34, .load 34 (.tmp 5)⟩,
        ⟨some 16, .none, true, 4, .call { callee := .value (.func 21), args := #[.tmp 15], argTypes := #[34] }⟩,
        ⟨some 17, .none, true, 4, .unOp .not 4 (.tmp 16)⟩,
        ⟨some 18, .none, true, 4, .move (.tmp 17)⟩,
        ⟨some 19, .some 18 false, true, 34, .load 34 (.tmp 6)⟩,
        ⟨some 20, .some 18 false, true, 4, .call { callee := .value (.func 21), args := #[.tmp 19], argTypes := #[34] }⟩,
        ⟨some 21, .some 18 false, true, 4, .unOp .not 4 (.tmp 20)⟩,
        ⟨some 22, .none, true, 4, .pick (.tmp 18) (.const (.bool true)) (.tmp 21)⟩,
        ⟨some 23, .none, true, 4, .move (.tmp 22)⟩,
        ⟨some 24, .some 23 false, true, 34, .load 34 (.tmp 7)⟩,
        ⟨some 25, .some 23 false, true, 4, .call { callee := .value (.func 21), args := #[.tmp 24], argTypes := #[34] }⟩,
        ⟨some 26, .some 23 false, true, 4, .unOp .not 4 (.tmp 25)⟩,
        ⟨some 27, .none, true, 4, .pick (.tmp 23) (.const (.bool true)) (.tmp 26)⟩])
    (.keep [3, 4, 5, 6, 7, 27]
    (.cond (.tmp 27)
      (.seq
        (.region [⟨some 10, .none, true, 4, .assign (.const (.bool true))⟩])
      .ret)
      .skip)))
  (.seq
    (.region [⟨some 29, .none, true, 34, .load 34 (.tmp 5)⟩,
      ⟨some 30, .none, true, 3, .move (.tmp 4)⟩,
      ⟨some 31, .none, true, 44, .call { callee := .value (.func 23), args := #[.tmp 29, .tmp 30], argTypes := #[34, 3] }⟩,
      ⟨some 28, .none, true, 44, .move (.tmp 31)⟩,
      ⟨some 32, .none, true, 34, .extract (.tmp 28) 0⟩,
      ⟨some 33, .none, true, 43, .extract (.tmp 28) 1⟩,
      ⟨some 11, .none, true, 0, .alloc 34⟩,
      ⟨none, .none, true, 0, .store 34 (.tmp 11) (.tmp 32)⟩,
      ⟨some 12, .none, true, 43, .assign (.tmp 33)⟩])
  (.keep [3, 5, 6, 7, 11, 12]
  (.seq
    (.seq
      (.region [⟨some 34, .none, false, 34, .load 34 (.tmp 5)⟩,
        ⟨some 35, .none, false, 3, .move (.tmp 3)⟩,
        ⟨some 36, .none, false, 34, .call { callee := .value (.func 22), args := #[.tmp 34, .tmp 35], argTypes := #[34, 3] }⟩,
        ⟨some 37, .none, false, 34, .load 34 (.tmp 5)⟩,
        ⟨some 38, .none, true, 4, .call { callee := .value (.func 26), args := #[.tmp 36, .tmp 37], argTypes := #[34, 34] }⟩,
        ⟨some 39, .none, true, 4, .unOp .not 4 (.tmp 38)⟩,
        ⟨some 40, .none, true, 4, .move (.tmp 39)⟩,
        ⟨some 41, .some 40 false, true, 43, .move (.tmp 12)⟩,
        ⟨some 42, .some 40 false, true, 4, .binOp .eql 43 (.tmp 41) (.const (.int .i64 0)) 43⟩,
        ⟨some 43, .some 40 false, true, 4, .move (.tmp 42)⟩,
        ⟨some 44, .some 43 true, false, 34, .load 34 (.tmp 11)⟩,
        ⟨some 45, .some 43 true, false, 34, .load 34 (.tmp 5)⟩,
        ⟨some 46, .some 43 true, true, 4, .call { callee := .value (.func 26), args := #[.tmp 44, .tmp 45], argTypes := #[34, 34] }⟩,
        ⟨some 47, .some 43 true, true, 4, .unOp .not 4 (.tmp 46)⟩,
        ⟨some 48, .some 43 true, true, 4, .move (.tmp 47)⟩,
        ⟨some 49, .some 48 false, false, 34, .load 34 (.tmp 5)⟩,
        ⟨some 50, .some 48 false, false, 34, .load 34 (.tmp 11)⟩,
        ⟨some 51, .some 48 false, true, 4, .call { callee := .value (.func 26), args := #[.tmp 49, .tmp 50], argTypes := #[34, 34] }⟩,
        ⟨some 52, .some 43 true, true, 4, .pick (.tmp 48) (.const (.bool true)) (.tmp 51)⟩,
        ⟨some 53, .some 40 false, true, 4, .pick (.tmp 43) (.tmp 52) (.const (.bool false))⟩,
        ⟨some 54, .none, true, 4, .pick (.tmp 40) (.const (.bool true)) (.tmp 53)⟩,
        ⟨some 55, .none, true, 4, .move (.tmp 54)⟩,
        ⟨some 56, .some 55 false, false, 34, .load 34 (.tmp 5)⟩,
        ⟨some 57, .some 55 false, false, 34, .load 34 (.tmp 5)⟩,
        ⟨some 58, .some 55 false, true, 4, .call { callee := .value (.func 26), args := #[.tmp 56, .tmp 57], argTypes := #[34, 34] }⟩,
        ⟨some 59, .some 55 false, true, 4, .unOp .not 4 (.tmp 58)⟩,
        ⟨some 60, .none, true, 4, .pick (.tmp 55) (.const (.bool true)) (.tmp 59)⟩])
    (.keep [5, 6, 7, 60]
    (.cond (.tmp 60)
      (.seq
        (.region [⟨some 10, .none, true, 4, .assign (.const (.bool false))⟩])
      .ret)
      .skip)))
  (.seq
    (.region [⟨some 61, .none, true, 34, .load 34 (.tmp 5)⟩,
      ⟨some 62, .none, true, 34, .load 34 (.tmp 6)⟩,
      ⟨some 63, .none, true, 4, .call { callee := .value (.func 26), args := #[.tmp 61, .tmp 62], argTypes := #[34, 34] }⟩,
      ⟨some 64, .none, true, 4, .unOp .not 4 (.tmp 63)⟩,
      ⟨some 65, .none, true, 4, .move (.tmp 64)⟩,
      ⟨some 66, .some 65 false, true, 34, .load 34 (.tmp 6)⟩,
      ⟨some 67, .some 65 false, true, 34, .load 34 (.tmp 7)⟩,
      ⟨some 68, .some 65 false, true, 4, .call { callee := .value (.func 26), args := #[.tmp 66, .tmp 67], argTypes := #[34, 34] }⟩,
      ⟨some 69, .some 65 false, true, 4, .unOp .not 4 (.tmp 68)⟩,
      ⟨some 70, .none, true, 4, .pick (.tmp 65) (.const (.bool true)) (.tmp 69)⟩,
      ⟨some 71, .none, true, 4, .move (.tmp 70)⟩,
      ⟨some 72, .some 71 false, true, 34, .load 34 (.tmp 5)⟩,
      ⟨some 73, .some 71 false, true, 34, .load 34 (.tmp 7)⟩,
      ⟨some 74, .some 71 false, true, 4, .call { callee := .value (.func 26), args := #[.tmp 72, .tmp 73], argTypes := #[34, 34] }⟩,
      ⟨some 75, .none, true, 4, .pick (.tmp 71) (.const (.bool true)) (.tmp 74)⟩,
      ⟨some 76, .none, true, 4, .move (.tmp 75)⟩,
      ⟨some 77, .some 76 true, true, 34, .load 34 (.tmp 5)⟩,
      ⟨some 78, .some 76 true, true, 34, .load 34 (.tmp 6)⟩,
      ⟨some 79, .some 76 true, true, 4, .call { callee := .value (.func 26), args := #[.tmp 77, .tmp 78], argTypes := #[34, 34] }⟩,
      ⟨some 80, .some 76 true, true, 4, .unOp .not 4 (.tmp 79)⟩,
      ⟨some 81, .some 76 true, true, 4, .move (.tmp 80)⟩,
      ⟨some 82, .some 81 false, true, 34, .load 34 (.tmp 6)⟩,
      ⟨some 83, .some 81 false, true, 34, .load 34 (.tmp 5)⟩,
      ⟨some 84, .some 81 false, true, 4, .call { callee := .value (.func 26), args := #[.tmp 82, .tmp 83], argTypes := #[34, 34] }⟩,
      ⟨some 85, .some 81 false, true, 4, .unOp .not 4 (.tmp 84)⟩,
      ⟨some 86, .some 76 true, true, 4, .pick (.tmp 81) (.const (.bool true)) (.tmp 85)⟩,
      ⟨some 87, .some 76 true, true, 4, .move (.tmp 86)⟩,
      ⟨some 88, .some 87 false, true, 34, .load 34 (.tmp 5)⟩,
      ⟨some 89, .some 87 false, true, 34, .load 34 (.tmp 6)⟩,
      ⟨some 90, .some 87 false, true, 4, .binOp .eql 34 (.tmp 88) (.tmp 89) 34⟩,
      ⟨some 91, .some 76 true, true, 4, .pick (.tmp 87) (.const (.bool true)) (.tmp 90)⟩,
      ⟨some 92, .none, true, 4, .pick (.tmp 76) (.tmp 91) (.const (.bool false))⟩,
      ⟨some 10, .none, true, 4, .assign (.tmp 92)⟩])
  .ret))))))))
theorem t_reevelaw8_CapLess : FnT Tryd.prog f_reevelaw8_CapLess rc_reevelaw8_CapLess [.tmp 10] 5 := ⟨⟨[], Tryd.f8, _, Tryd.func8, rfl, by kernel_rfl, by kernel_rfl, by kernel_rfl, rfl, by decide⟩, by kernel_rfl⟩
/-- reeve/reevelaw8.awake -/
abbrev f_reevelaw8_awake : FuncId := 18
def rc_reevelaw8_awake : RCode :=
  (.seq
    (.region [⟨some 0, .none, true, 4, .assign (.const (.bool false))⟩])
  (.keep []
  (.seq
    (.region [⟨some 6, .none, true, 34, .build 34 #[(0, .const (.int .i64 3)), (1, .const (.int .i64 1)), (2, .const (.int .i64 7)), (3, .const (.int .i64 2))]⟩,
      ⟨some 1, .none, true, 0, .alloc 34⟩,
      ⟨none, .none, true, 0, .store 34 (.tmp 1) (.tmp 6)⟩])
  (.keep [1]
  (.seq
    (.region [⟨some 8, .none, true, 34, .load 34 (.tmp 1)⟩,
      ⟨some 9, .none, true, 28, .call { callee := .value (.func 19), args := #[.tmp 8], argTypes := #[34] }⟩,
      ⟨some 7, .none, true, 28, .move (.tmp 9)⟩,
      ⟨some 10, .none, true, 27, .extract (.tmp 7) 0⟩,
      ⟨some 11, .none, true, 4, .extract (.tmp 7) 1⟩,
      ⟨some 2, .none, true, 27, .assign (.tmp 10)⟩,
      ⟨some 3, .none, true, 4, .assign (.tmp 11)⟩])
  (.keep [1, 2, 3]
  (.seq
    (.region [⟨some 13, .none, true, 27, .move (.tmp 2)⟩,
      ⟨some 14, .none, true, 36, .call { callee := .value (.func 20), args := #[.tmp 13], argTypes := #[27] }⟩,
      ⟨some 12, .none, true, 36, .move (.tmp 14)⟩,
      ⟨some 15, .none, true, 34, .extract (.tmp 12) 0⟩,
      ⟨some 16, .none, true, 4, .extract (.tmp 12) 1⟩,
      ⟨some 4, .none, true, 0, .alloc 34⟩,
      ⟨none, .none, true, 0, .store 34 (.tmp 4) (.tmp 15)⟩,
      ⟨some 5, .none, true, 4, .assign (.tmp 16)⟩])
  (.keep [1, 3, 4, 5]
  (.seq
    (.region [⟨some 17, .none, true, 34, .load 34 (.tmp 1)⟩,
      ⟨some 18, .none, true, 9, .call { callee := .value (.func 24), args := #[.tmp 17], argTypes := #[34] }⟩,
      ⟨some 19, .none, true, 4, .binOp .eql 9 (.tmp 18) (.const (.string { data := #[51, 32, 49, 32, 114, 119, 103, 32, 50] })) 9⟩,
      ⟨some 20, .none, true, 4, .move (.tmp 19)⟩,
      ⟨some 21, .some 20 true, true, 4, .move (.tmp 3)⟩,
      ⟨some 22, .none, true, 4, .pick (.tmp 20) (.tmp 21) (.const (.bool false))⟩,
      ⟨some 23, .none, true, 4, .move (.tmp 22)⟩,
      ⟨some 24, .some 23 true, true, 4, .move (.tmp 5)⟩,
      ⟨some 25, .none, true, 4, .pick (.tmp 23) (.tmp 24) (.const (.bool false))⟩,
      ⟨some 26, .none, true, 4, .move (.tmp 25)⟩,
      ⟨some 27, .some 26 true, true, 34, .load 34 (.tmp 4)⟩,
      ⟨some 28, .some 26 true, true, 34, .load 34 (.tmp 1)⟩,
      ⟨some 29, .some 26 true, true, 4, .binOp .eql 34 (.tmp 27) (.tmp 28) 34⟩,
      ⟨some 30, .none, true, 4, .pick (.tmp 26) (.tmp 29) (.const (.bool false))⟩,
      ⟨some 31, .none, true, 4, .move (.tmp 30)⟩,
      ⟨some 32, .some 31 true, true, 34, .load 34 (.tmp 1)⟩,
      ⟨some 33, .some 31 true, true, 4, .call { callee := .value (.func 21), args := #[.tmp 32], argTypes := #[34] }⟩,
      ⟨some 34, .none, true, 4, .pick (.tmp 31) (.tmp 33) (.const (.bool false))⟩,
      ⟨some 35, .none, true, 4, .move (.tmp 34)⟩,
      ⟨some 36, .some 35 true, true, 34, .load 34 (.tmp 1)⟩,
      ⟨some 37, .some 35 true, true, 4, .call { callee := .value (.func 25), args := #[.tmp 36], argTypes := #[34] }⟩,
      ⟨some 38, .some 35 true, true, 4, .unOp .not 4 (.tmp 37)⟩,
      ⟨some 39, .none, true, 4, .pick (.tmp 35) (.tmp 38) (.const (.bool false))⟩,
      ⟨some 0, .none, true, 4, .assign (.tmp 39)⟩])
  .ret)))))))))
theorem t_reevelaw8_awake : FnT Tryd.prog f_reevelaw8_awake rc_reevelaw8_awake [.tmp 0] 0 := ⟨⟨[], Tryd.f18, _, Tryd.func18, rfl, by kernel_rfl, by kernel_rfl, by kernel_rfl, rfl, by decide⟩, by kernel_rfl⟩
/-- reeve/cap.Word -/
abbrev f_cap_Word : FuncId := 19
def rc_cap_Word : RCode :=
  (.seq
    (.region [⟨some 1, .none, true, 0, .box 34 (.tmp 0)⟩,
      ⟨some 2, .none, true, 27, .assign (.const (.int .u64 0))⟩,
      ⟨some 3, .none, true, 4, .assign (.const (.bool false))⟩])
  (.keep [1]
  (.seq
    (.seq
      (.region [⟨some 4, .none, true, 34, .load 34 (.tmp 1)⟩,
        ⟨some 5, .none, true, 4, .call { callee := .value (.func 21), args := #[.tmp 4], argTypes := #[34] }⟩,
        ⟨some 6, .none, true, 4, .unOp .not 4 (.tmp 5)⟩])
    (.keep [1, 6]
    (.cond (.tmp 6)
      (.seq
        (.region [⟨some 2, .none, true, 27, .assign (.const (.int .u64 0))⟩,
          ⟨some 3, .none, true, 4, .assign (.const (.bool false))⟩])
      .ret)
      .skip)))
  (.seq
    (.regionD [⟨some 7, .none, 78, .call { callee := .value (.func 48), args := #[], argTypes := #[] }, 0, []⟩,
      ⟨some 8, .none, 0, .fieldAddr 34 (.tmp 1) 0, 1, []⟩,
      ⟨some 9, .none, 3, .load 3 (.tmp 8), 2, [0]⟩,
      ⟨some 10, .none, 27, .convert 3 27 (.tmp 9), 3, []⟩,
      ⟨some 11, .none, 0, .fieldAddr 34 (.tmp 1) 2, 4, []⟩,
      ⟨some 12, .none, 3, .load 3 (.tmp 11), 5, [0]⟩,
      ⟨some 13, .none, 27, .convert 3 27 (.tmp 12), 6, []⟩,
      ⟨some 14, .none, 0, .fieldAddr 34 (.tmp 1) 3, 7, []⟩,
      ⟨some 15, .none, 3, .load 3 (.tmp 14), 8, [0]⟩,
      ⟨some 16, .none, 27, .convert 3 27 (.tmp 15), 9, []⟩,
      ⟨some 17, .none, 0, .fieldAddr 34 (.tmp 1) 1, 10, []⟩,
      ⟨some 18, .none, 3, .load 3 (.tmp 17), 11, [0]⟩,
      ⟨some 19, .none, 27, .convert 3 27 (.tmp 18), 12, []⟩,
      ⟨some 20, .none, 66, .buildSlice 66 4 #[(0, .tmp 10), (1, .tmp 13), (2, .tmp 16), (3, .tmp 19)], 13, [0]⟩,
      ⟨some 21, .none, 28, .call { callee := .value (.func 47), args := #[.tmp 7, .tmp 20], argTypes := #[78, 66] }, 14, []⟩,
      ⟨some 22, .none, 27, .extract (.tmp 21) 0, 15, []⟩,
      ⟨some 23, .none, 4, .extract (.tmp 21) 1, 16, []⟩,
      ⟨some 2, .none, 27, .assign (.tmp 22), 17, []⟩,
      ⟨some 3, .none, 4, .assign (.tmp 23), 18, []⟩])
  .ret))))
theorem t_cap_Word : FnT Tryd.prog f_cap_Word rc_cap_Word [.tmp 2, .tmp 3] 1 := ⟨⟨[3], Tryd.f19, _, Tryd.func19, rfl, by kernel_rfl, by kernel_rfl, by kernel_rfl, rfl, by decide⟩, by kernel_rfl⟩
/-- reeve/cap.Get -/
abbrev f_cap_Get : FuncId := 20
def rc_cap_Get : RCode :=
  (.seq
    (.region [⟨some 2, .none, true, 0, .alloc 34⟩,
      ⟨some 3, .none, true, 4, .assign (.const (.bool false))⟩])
  (.keep [0, 2]
  (.seq
    (.region [⟨some 6, .none, true, 27, .move (.tmp 0)⟩,
      ⟨some 7, .none, true, 78, .call { callee := .value (.func 48), args := #[], argTypes := #[] }⟩,
      ⟨some 8, .none, true, 66, .call { callee := .value (.func 49), args := #[.tmp 6, .tmp 7], argTypes := #[27, 78] }⟩,
      ⟨some 4, .none, true, 66, .assign (.tmp 8)⟩])
  (.keep [0, 2, 4]
  (.seq
    (.regionD [⟨some 9, .none, 66, .move (.tmp 4), 0, []⟩,
      ⟨some 10, .none, 0, .indexAddr 66 (.tmp 9) (.const (.int .i64 0)), 1, []⟩,
      ⟨some 11, .none, 27, .load 27 (.tmp 10), 2, []⟩,
      ⟨some 12, .none, 3, .convert 27 3 (.tmp 11), 3, []⟩,
      ⟨some 13, .none, 66, .move (.tmp 4), 4, []⟩,
      ⟨some 14, .none, 0, .indexAddr 66 (.tmp 13) (.const (.int .i64 3)), 5, []⟩,
      ⟨some 15, .none, 27, .load 27 (.tmp 14), 6, []⟩,
      ⟨some 16, .none, 3, .convert 27 3 (.tmp 15), 7, []⟩,
      ⟨some 17, .none, 66, .move (.tmp 4), 8, []⟩,
      ⟨some 18, .none, 0, .indexAddr 66 (.tmp 17) (.const (.int .i64 1)), 9, []⟩,
      ⟨some 19, .none, 27, .load 27 (.tmp 18), 10, []⟩,
      ⟨some 20, .none, 3, .convert 27 3 (.tmp 19), 11, []⟩,
      ⟨some 21, .none, 66, .move (.tmp 4), 12, []⟩,
      ⟨some 22, .none, 0, .indexAddr 66 (.tmp 21) (.const (.int .i64 2)), 13, []⟩,
      ⟨some 23, .none, 27, .load 27 (.tmp 22), 14, []⟩,
      ⟨some 24, .none, 3, .convert 27 3 (.tmp 23), 15, []⟩,
      ⟨some 25, .none, 34, .build 34 #[(0, .tmp 12), (1, .tmp 16), (2, .tmp 20), (3, .tmp 24)], 16, []⟩,
      ⟨some 5, .none, 0, .alloc 34, 17, [2, 6, 10, 14]⟩,
      ⟨none, .none, 0, .store 34 (.tmp 5) (.tmp 25), 18, []⟩])
  (.keep [0, 2, 5]
  (.seq
    (.seq
      (.region [⟨some 26, .none, true, 27, .move (.tmp 0)⟩,
        ⟨some 27, .none, true, 78, .call { callee := .value (.func 48), args := #[], argTypes := #[] }⟩,
        ⟨some 28, .none, true, 27, .call { callee := .value (.func 50), args := #[.tmp 26, .tmp 27], argTypes := #[27, 78] }⟩,
        ⟨some 29, .none, true, 4, .binOp .neq 27 (.tmp 28) (.const (.int .u64 0)) 27⟩,
        ⟨some 30, .none, true, 4, .move (.tmp 29)⟩,
        ⟨some 31, .some 30 false, true, 34, .load 34 (.tmp 5)⟩,
        ⟨some 32, .some 30 false, true, 4, .call { callee := .value (.func 21), args := #[.tmp 31], argTypes := #[34] }⟩,
        ⟨some 33, .some 30 false, true, 4, .unOp .not 4 (.tmp 32)⟩,
        ⟨some 34, .none, true, 4, .pick (.tmp 30) (.const (.bool true)) (.tmp 33)⟩])
    (.keep [2, 5, 34]
    (.cond (.tmp 34)
      (.seq
        (.region [⟨some 35, .none, true, 34, .build 34 #[]⟩,
          ⟨none, .none, true, 0, .store 34 (.tmp 2) (.tmp 35)⟩,
          ⟨some 3, .none, true, 4, .assign (.const (.bool false))⟩])
      .ret)
      .skip)))
  (.seq
    (.region [⟨some 36, .none, true, 34, .load 34 (.tmp 5)⟩,
      ⟨none, .none, true, 0, .store 34 (.tmp 2) (.tmp 36)⟩,
      ⟨some 3, .none, true, 4, .assign (.const (.bool true))⟩])
  .ret))))))))
theorem t_cap_Get : FnT Tryd.prog f_cap_Get rc_cap_Get [.cell 2 34, .tmp 3] 1 := ⟨⟨[2], Tryd.f20, _, Tryd.func20, rfl, by kernel_rfl, by kernel_rfl, by kernel_rfl, rfl, by decide⟩, by kernel_rfl⟩
/-- reeve/cap.Good -/
abbrev f_cap_Good : FuncId := 21
def rc_cap_Good : RCode :=
  (.seq
    (.region [⟨some 1, .none, true, 0, .box 34 (.tmp 0)⟩,
      ⟨some 2, .none, true, 4, .assign (.const (.bool false))⟩])
  (.keep [1]
  (.seq
    (.seq
      (.region [⟨some 3, .none, true, 34, .load 34 (.tmp 1)⟩,
        ⟨some 4, .none, true, 4, .call { callee := .value (.func 25), args := #[.tmp 3], argTypes := #[34] }⟩])
    (.keep [1, 4]
    (.cond (.tmp 4)
      (.seq
        (.region [⟨some 2, .none, true, 4, .assign (.const (.bool true))⟩])
      .ret)
      .skip)))
  (.seq
    (.region [⟨some 5, .none, true, 0, .fieldAddr 34 (.tmp 1) 0⟩,
      ⟨some 6, .none, true, 3, .load 3 (.tmp 5)⟩,
      ⟨some 7, .none, true, 4, .call { callee := .value (.func 51), args := #[.tmp 6, .const (.int .i64 1), .const (.int .i64 5)], argTypes := #[3, 3, 3] }⟩,
      ⟨some 8, .none, true, 4, .move (.tmp 7)⟩,
      ⟨some 9, .some 8 true, true, 0, .fieldAddr 34 (.tmp 1) 1⟩,
      ⟨some 10, .some 8 true, true, 3, .load 3 (.tmp 9)⟩,
      ⟨some 11, .some 8 true, true, 4, .call { callee := .value (.func 51), args := #[.tmp 10, .const (.int .i64 0), .const (.int .i64 47)], argTypes := #[3, 3, 3] }⟩,
      ⟨some 12, .none, true, 4, .pick (.tmp 8) (.tmp 11) (.const (.bool false))⟩,
      ⟨some 13, .none, true, 4, .move (.tmp 12)⟩,
      ⟨some 14, .some 13 true, true, 0, .fieldAddr 34 (.tmp 1) 2⟩,
      ⟨some 15, .some 13 true, true, 3, .load 3 (.tmp 14)⟩,
      ⟨some 16, .some 13 true, true, 4, .call { callee := .value (.func 52), args := #[.tmp 15], argTypes := #[3] }⟩,
      ⟨some 17, .none, true, 4, .pick (.tmp 13) (.tmp 16) (.const (.bool false))⟩,
      ⟨some 18, .none, true, 4, .move (.tmp 17)⟩,
      ⟨some 19, .some 18 true, true, 0, .fieldAddr 34 (.tmp 1) 3⟩,
      ⟨some 20, .some 18 true, true, 3, .load 3 (.tmp 19)⟩,
      ⟨some 21, .some 18 true, true, 4, .call { callee := .value (.func 53), args := #[.tmp 20], argTypes := #[3] }⟩,
      ⟨some 22, .none, true, 4, .pick (.tmp 18) (.tmp 21) (.const (.bool false))⟩,
      ⟨some 23, .none, true, 4, .move (.tmp 22)⟩,
      ⟨some 24, .some 23 true, true, 0, .fieldAddr 34 (.tmp 1) 3⟩,
      ⟨some 25, .some 23 true, true, 3, .load 3 (.tmp 24)⟩,
      ⟨some 26, .some 23 true, true, 4, .binOp .eql 3 (.tmp 25) (.const (.int .i64 0)) 3⟩,
      ⟨some 27, .some 23 true, true, 4, .move (.tmp 26)⟩,
      ⟨some 28, .some 27 false, true, 0, .fieldAddr 34 (.tmp 1) 0⟩,
      ⟨some 29, .some 27 false, true, 3, .load 3 (.tmp 28)⟩,
      ⟨some 30, .some 27 false, true, 4, .call { callee := .value (.func 54), args := #[.tmp 29], argTypes := #[3] }⟩,
      ⟨some 31, .some 23 true, true, 4, .pick (.tmp 27) (.const (.bool true)) (.tmp 30)⟩,
      ⟨some 32, .none, true, 4, .pick (.tmp 23) (.tmp 31) (.const (.bool false))⟩,
      ⟨some 2, .none, true, 4, .assign (.tmp 32)⟩])
  .ret))))
theorem t_cap_Good : FnT Tryd.prog f_cap_Good rc_cap_Good [.tmp 2] 1 := ⟨⟨[], Tryd.f21, _, Tryd.func21, rfl, by kernel_rfl, by kernel_rfl, by kernel_rfl, rfl, by decide⟩, by kernel_rfl⟩
/-- reeve/cap.Cut -/
abbrev f_cap_Cut : FuncId := 22
def rc_cap_Cut : RCode :=
  (.seq
    (.region [⟨some 2, .none, true, 0, .box 34 (.tmp 0)⟩,
      ⟨some 4, .none, true, 0, .alloc 34⟩])
  (.keep [1, 2, 4]
  (.seq
    (.seq
      (.region [⟨some 5, .none, true, 34, .load 34 (.tmp 2)⟩,
        ⟨some 6, .none, true, 4, .call { callee := .value (.func 21), args := #[.tmp 5], argTypes := #[34] }⟩,
        ⟨some 7, .none, true, 4, .unOp .not 4 (.tmp 6)⟩])
    (.keep [1, 2, 4, 7]
    (.cond (.tmp 7)
      (.seq
        (.region [⟨some 8, .none, true, 34, .build 34 #[]⟩,
          ⟨none, .none, true, 0, .store 34 (.tmp 4) (.tmp 8)⟩])
      .ret)
      .skip)))
  (.seq
    (.region [⟨some 9, .none, true, 0, .fieldAddr 34 (.tmp 2) 2⟩,
      ⟨some 10, .none, true, 3, .load 3 (.tmp 9)⟩,
      ⟨some 11, .none, true, 3, .move (.tmp 1)⟩,
      ⟨some 12, .none, true, 3, .call { callee := .value (.func 55), args := #[.tmp 10, .tmp 11], argTypes := #[3, 3] }⟩,
      ⟨some 13, .none, true, 0, .fieldAddr 34 (.tmp 2) 2⟩,
      ⟨none, .none, true, 0, .store 3 (.tmp 13) (.tmp 12)⟩])
  (.keep [2, 4]
  (.seq
    (.region [⟨some 14, .none, true, 34, .load 34 (.tmp 2)⟩,
      ⟨none, .none, true, 0, .store 34 (.tmp 4) (.tmp 14)⟩])
  .ret))))))
theorem t_cap_Cut : FnT Tryd.prog f_cap_Cut rc_cap_Cut [.cell 4 34] 2 := ⟨⟨[], Tryd.f22, _, Tryd.func22, rfl, by kernel_rfl, by kernel_rfl, by kernel_rfl, rfl, by decide⟩, by kernel_rfl⟩
/-- reeve/cap.Stamp -/
abbrev f_cap_Stamp : FuncId := 23
def rc_cap_Stamp : RCode :=
  (.seq
    (.region [⟨some 2, .none, true, 0, .box 34 (.tmp 0)⟩,
      ⟨some 4, .none, true, 0, .alloc 34⟩,
      ⟨some 5, .none, true, 43, .assign (.const (.int .i64 0))⟩])
  (.keep [1, 2, 4]
  (.seq
    (.block 0
      (.seq
        (.seq
          (.region [⟨some 7, .none, true, 34, .load 34 (.tmp 2)⟩,
            ⟨some 8, .none, true, 4, .call { callee := .value (.func 21), args := #[.tmp 7], argTypes := #[34] }⟩,
            ⟨some 9, .none, true, 4, .unOp .not 4 (.tmp 8)⟩,
            ⟨some 6, .none, true, 4, .assign (.tmp 9)⟩])
        (.keep [1, 2, 4, 6]
        (.cond (.tmp 6)
          .skip
          (.seq
            (.region [⟨some 10, .none, true, 3, .move (.tmp 1)⟩,
              ⟨some 11, .none, true, 4, .call { callee := .value (.func 53), args := #[.tmp 10], argTypes := #[3] }⟩,
              ⟨some 12, .none, true, 4, .unOp .not 4 (.tmp 11)⟩,
              ⟨some 6, .none, true, 4, .assign (.tmp 12)⟩])
          (.keep [1, 2, 4, 6]
          (.cond (.tmp 6)
            .skip
            (.region [⟨some 13, .none, true, 3, .move (.tmp 1)⟩,
              ⟨some 14, .none, true, 4, .binOp .eql 3 (.tmp 13) (.const (.int .i64 0)) 3⟩,
              ⟨some 6, .none, true, 4, .assign (.tmp 14)⟩])))))))
      (.cond (.tmp 6)
        (.seq
          (.region [⟨some 15, .none, true, 34, .build 34 #[]⟩,
            ⟨none, .none, true, 0, .store 34 (.tmp 4) (.tmp 15)⟩,
            ⟨some 5, .none, true, 43, .assign (.const (.int .i64 1))⟩])
        .ret)
        (.seq
          (.region [⟨some 17, .none, true, 0, .fieldAddr 34 (.tmp 2) 0⟩,
            ⟨some 18, .none, true, 3, .load 3 (.tmp 17)⟩,
            ⟨some 19, .none, true, 4, .call { callee := .value (.func 54), args := #[.tmp 18], argTypes := #[3] }⟩,
            ⟨some 20, .none, true, 4, .unOp .not 4 (.tmp 19)⟩,
            ⟨some 16, .none, true, 4, .assign (.tmp 20)⟩])
        (.keep [1, 2, 4, 16]
        (.cond (.tmp 16)
          (.seq
            (.region [⟨some 21, .none, true, 34, .build 34 #[]⟩,
              ⟨none, .none, true, 0, .store 34 (.tmp 4) (.tmp 21)⟩,
              ⟨some 5, .none, true, 43, .assign (.const (.int .i64 7))⟩])
          .ret)
          (.seq
            (.region [⟨some 23, .none, true, 0, .fieldAddr 34 (.tmp 2) 3⟩,
              ⟨some 24, .none, true, 3, .load 3 (.tmp 23)⟩,
              ⟨some 25, .none, true, 4, .binOp .neq 3 (.tmp 24) (.const (.int .i64 0)) 3⟩,
              ⟨some 22, .none, true, 4, .assign (.tmp 25)⟩])
          (.keep [1, 2, 4, 22]
          (.cond (.tmp 22)
            (.seq
              (.region [⟨some 26, .none, true, 34, .build 34 #[]⟩,
                ⟨none, .none, true, 0, .store 34 (.tmp 4) (.tmp 26)⟩,
                ⟨some 5, .none, true, 43, .assign (.const (.int .i64 5))⟩])
            .ret)
            .skip)))))))))
  (.keep [1, 2, 4]
  (.seq
    (.region [⟨some 27, .none, true, 3, .move (.tmp 1)⟩,
      ⟨some 28, .none, true, 0, .fieldAddr 34 (.tmp 2) 3⟩,
      ⟨none, .none, true, 0, .store 3 (.tmp 28) (.tmp 27)⟩])
  (.keep [2, 4]
  (.seq
    (.region [⟨some 29, .none, true, 34, .load 34 (.tmp 2)⟩,
      ⟨none, .none, true, 0, .store 34 (.tmp 4) (.tmp 29)⟩,
      ⟨some 5, .none, true, 43, .assign (.const (.int .i64 0))⟩])
  .ret)))))))
theorem t_cap_Stamp : FnT Tryd.prog f_cap_Stamp rc_cap_Stamp [.cell 4 34, .tmp 5] 2 := ⟨⟨[], Tryd.f23, _, Tryd.func23, rfl, by kernel_rfl, by kernel_rfl, by kernel_rfl, rfl, by decide⟩, by kernel_rfl⟩
/-- reeve/cap.Text -/
abbrev f_cap_Text : FuncId := 24
def rc_cap_Text : RCode :=
  (.seq
    (.region [⟨some 1, .none, true, 0, .box 34 (.tmp 0)⟩,
      ⟨some 2, .none, true, 9, .assign (.const (.string { data := #[] }))⟩])
  (.keep [1]
  (.seq
    (.block 0
      (.seq
        (.region [⟨some 4, .none, true, 34, .load 34 (.tmp 1)⟩,
          ⟨some 5, .none, true, 4, .call { callee := .value (.func 21), args := #[.tmp 4], argTypes := #[34] }⟩,
          ⟨some 6, .none, true, 4, .unOp .not 4 (.tmp 5)⟩,
          ⟨some 3, .none, true, 4, .assign (.tmp 6)⟩])
      (.keep [1, 3]
      (.cond (.tmp 3)
        (.seq
          (.region [⟨some 2, .none, true, 9, .assign (.const (.string { data := #[] }))⟩])
        .ret)
        (.seq
          (.region [⟨some 8, .none, true, 34, .load 34 (.tmp 1)⟩,
            ⟨some 9, .none, true, 4, .call { callee := .value (.func 25), args := #[.tmp 8], argTypes := #[34] }⟩,
            ⟨some 7, .none, true, 4, .assign (.tmp 9)⟩])
        (.keep [1, 7]
        (.cond (.tmp 7)
          (.seq
            (.region [⟨some 2, .none, true, 9, .assign (.const (.string { data := #[45] }))⟩])
          .ret)
          .skip)))))))
  (.keep [1]
  (.seq
    (.region [⟨some 10, .none, false, 0, .fieldAddr 34 (.tmp 1) 0⟩,
      ⟨some 11, .none, false, 3, .load 3 (.tmp 10)⟩,
      ⟨some 12, .none, false, 9, .call { callee := .value (.func 44), args := #[.tmp 11], argTypes := #[3] }⟩,
      ⟨some 13, .none, false, 0, .fieldAddr 34 (.tmp 1) 1⟩,
      ⟨some 14, .none, false, 3, .load 3 (.tmp 13)⟩,
      ⟨some 15, .none, false, 9, .call { callee := .value (.func 44), args := #[.tmp 14], argTypes := #[3] }⟩,
      ⟨some 16, .none, false, 0, .fieldAddr 34 (.tmp 1) 2⟩,
      ⟨some 17, .none, false, 3, .load 3 (.tmp 16)⟩,
      ⟨some 18, .none, false, 9, .call { callee := .value (.func 56), args := #[.tmp 17], argTypes := #[3] }⟩,
      ⟨some 19, .none, false, 0, .fieldAddr 34 (.tmp 1) 3⟩,
      ⟨some 20, .none, false, 3, .load 3 (.tmp 19)⟩,
      ⟨some 21, .none, true, 9, .call { callee := .value (.func 44), args := #[.tmp 20], argTypes := #[3] }⟩,
      ⟨some 22, .none, true, 65, .buildSlice 65 4 #[(0, .tmp 12), (1, .tmp 15), (2, .tmp 18), (3, .tmp 21)]⟩,
      ⟨some 23, .none, true, 9, .call { callee := .value (.func 45), args := #[.tmp 22, .const (.string { data := #[32] })], argTypes := #[65, 9] }⟩,
      ⟨some 2, .none, true, 9, .assign (.tmp 23)⟩])
  .ret)))))
theorem t_cap_Text : FnT Tryd.prog f_cap_Text rc_cap_Text [.tmp 2] 1 := ⟨⟨[], Tryd.f24, _, Tryd.func24, rfl, by kernel_rfl, by kernel_rfl, by kernel_rfl, rfl, by decide⟩, by kernel_rfl⟩
/-- reeve/cap.None -/
abbrev f_cap_None : FuncId := 25
def rc_cap_None : RCode :=
  (.seq
    (.region [⟨some 1, .none, true, 0, .box 34 (.tmp 0)⟩,
      ⟨some 2, .none, true, 4, .assign (.const (.bool false))⟩])
  (.keep [1]
  (.seq
    (.region [⟨some 3, .none, true, 34, .load 34 (.tmp 1)⟩,
      ⟨some 4, .none, true, 34, .build 34 #[]⟩,
      ⟨some 5, .none, true, 4, .binOp .eql 34 (.tmp 3) (.tmp 4) 34⟩,
      ⟨some 2, .none, true, 4, .assign (.tmp 5)⟩])
  .ret)))
theorem t_cap_None : FnT Tryd.prog f_cap_None rc_cap_None [.tmp 2] 1 := ⟨⟨[], Tryd.f25, _, Tryd.func25, rfl, by kernel_rfl, by kernel_rfl, by kernel_rfl, rfl, by decide⟩, by kernel_rfl⟩
/-- reeve/cap.Less -/
abbrev f_cap_Less : FuncId := 26
def rc_cap_Less : RCode :=
  (.seq
    (.region [⟨some 2, .none, true, 0, .box 34 (.tmp 0)⟩,
      ⟨some 3, .none, true, 0, .box 34 (.tmp 1)⟩,
      ⟨some 4, .none, true, 4, .assign (.const (.bool false))⟩])
  (.keep [2, 3]
  (.seq
    (.seq
      (.region [⟨some 5, .none, true, 34, .load 34 (.tmp 2)⟩,
        ⟨some 6, .none, true, 4, .call { callee := .value (.func 25), args := #[.tmp 5], argTypes := #[34] }⟩])
    (.keep [2, 3, 6]
    (.cond (.tmp 6)
      (.seq
        (.region [⟨some 4, .none, true, 4, .assign (.const (.bool true))⟩])
      .ret)
      .skip)))
  (.seq
    (.region [⟨some 7, .none, true, 0, .fieldAddr 34 (.tmp 2) 0⟩,
      ⟨some 8, .none, true, 3, .load 3 (.tmp 7)⟩,
      ⟨some 9, .none, true, 0, .fieldAddr 34 (.tmp 3) 0⟩,
      ⟨some 10, .none, true, 3, .load 3 (.tmp 9)⟩,
      ⟨some 11, .none, true, 4, .binOp .eql 3 (.tmp 8) (.tmp 10) 3⟩,
      ⟨some 12, .none, true, 4, .move (.tmp 11)⟩,
      ⟨some 13, .some 12 true, true, 0, .fieldAddr 34 (.tmp 2) 1⟩,
      ⟨some 14, .some 12 true, true, 3, .load 3 (.tmp 13)⟩,
      ⟨some 15, .some 12 true, true, 0, .fieldAddr 34 (.tmp 3) 1⟩,
      ⟨some 16, .some 12 true, true, 3, .load 3 (.tmp 15)⟩,
      ⟨some 17, .some 12 true, true, 4, .binOp .eql 3 (.tmp 14) (.tmp 16) 3⟩,
      ⟨some 18, .none, true, 4, .pick (.tmp 12) (.tmp 17) (.const (.bool false))⟩,
      ⟨some 19, .none, true, 4, .move (.tmp 18)⟩,
      ⟨some 20, .some 19 true, true, 0, .fieldAddr 34 (.tmp 2) 2⟩,
      ⟨some 21, .some 19 true, true, 3, .load 3 (.tmp 20)⟩,
      ⟨some 22, .some 19 true, true, 0, .fieldAddr 34 (.tmp 3) 2⟩,
      ⟨some 23, .some 19 true, true, 3, .load 3 (.tmp 22)⟩,
      ⟨some 24, .some 19 true, true, 4, .call { callee := .value (.func 57), args := #[.tmp 21, .tmp 23], argTypes := #[3, 3] }⟩,
      ⟨some 25, .none, true, 4, .pick (.tmp 19) (.tmp 24) (.const (.bool false))⟩,
      ⟨some 26, .none, true, 4, .move (.tmp 25)⟩,
      ⟨some 27, .some 26 true, true, 0, .fieldAddr 34 (.tmp 3) 3⟩,
      ⟨some 28, .some 26 true, true, 3, .load 3 (.tmp 27)⟩,
      ⟨some 29, .some 26 true, true, 4, .binOp .eql 3 (.tmp 28) (.const (.int .i64 0)) 3⟩,
      ⟨some 30, .some 26 true, true, 4, .move (.tmp 29)⟩,
      ⟨some 31, .some 30 false, true, 0, .fieldAddr 34 (.tmp 3) 3⟩,
      ⟨some 32, .some 30 false, true, 3, .load 3 (.tmp 31)⟩,
      ⟨some 33, .some 30 false, true, 0, .fieldAddr 34 (.tmp 2) 3⟩,
      ⟨some 34, .some 30 false, true, 3, .load 3 (.tmp 33)⟩,
      ⟨some 35, .some 30 false, true, 4, .binOp .eql 3 (.tmp 32) (.tmp 34) 3⟩,
      ⟨some 36, .some 26 true, true, 4, .pick (.tmp 30) (.const (.bool true)) (.tmp 35)⟩,
      ⟨some 37, .none, true, 4, .pick (.tmp 26) (.tmp 36) (.const (.bool false))⟩,
      ⟨some 4, .none, true, 4, .assign (.tmp 37)⟩])
  .ret))))
theorem t_cap_Less : FnT Tryd.prog f_cap_Less rc_cap_Less [.tmp 4] 2 := ⟨⟨[], Tryd.f26, _, Tryd.func26, rfl, by kernel_rfl, by kernel_rfl, by kernel_rfl, rfl, by decide⟩, by kernel_rfl⟩
/-- strconv.Itoa -/
abbrev f_strconv_Itoa : FuncId := 44
def rc_strconv_Itoa : RCode :=
  (.seq
    (.region [⟨some 2, .none, true, 9, .assign (.const (.string { data := #[] }))⟩])
  (.keep [0]
  (.seq
    (.region [⟨some 3, .none, true, 3, .move (.tmp 0)⟩,
      ⟨some 4, .none, true, 9, .call { callee := .value (.func 65), args := #[.tmp 3], argTypes := #[3] }⟩,
      ⟨some 2, .none, true, 9, .assign (.tmp 4)⟩])
  .ret)))
theorem t_strconv_Itoa : FnT Tryd.prog f_strconv_Itoa rc_strconv_Itoa [.tmp 2] 1 := ⟨⟨[], Tryd.f44, _, Tryd.func44, rfl, by kernel_rfl, by kernel_rfl, by kernel_rfl, rfl, by decide⟩, by kernel_rfl⟩
/-- strings.Join -/
abbrev f_strings_Join : FuncId := 45
def rc_strings_Joinl0 : RCode :=
  (.seq
    (.region [⟨some 42, .none, true, 0, .binOp .lss 3 (.tmp 41) (.tmp 40) 3⟩])
  (.keep [0, 1, 5, 39, 40, 41, 42]
  (.seq
    (.cond (.tmp 42)
      .skip
      (.exit 1))
  (.keep [0, 1, 5, 39, 40, 41]
  (.seq
    (.block 2
      (.seq
        (.region [⟨some 43, .none, true, 0, .indexAddr 65 (.tmp 39) (.tmp 41)⟩,
          ⟨some 44, .none, true, 9, .load 9 (.tmp 43)⟩,
          ⟨some 7, .none, true, 9, .assign (.tmp 44)⟩])
      (.keep [0, 1, 5, 7, 39, 40, 41]
      (.seq
        (.seq
          (.region [⟨some 45, .none, true, 9, .move (.tmp 7)⟩,
            ⟨some 46, .none, true, 3, .call { callee := .builtin .len, args := #[.tmp 45], argTypes := #[9] }⟩,
            ⟨some 47, .none, true, 3, .move (.tmp 5)⟩,
            ⟨some 48, .none, true, 3, .binOp .sub 3 (.const (.int .i64 9223372036854775807)) (.tmp 47) 3⟩,
            ⟨some 49, .none, true, 4, .binOp .gtr 3 (.tmp 46) (.tmp 48) 3⟩])
        (.keep [0, 1, 5, 7, 39, 40, 41, 49]
        (.cond (.tmp 49)
          (.region [⟨some 50, .none, true, 20, .makeInterface 9 (.const (.string { data := #[115, 116, 114, 105, 110, 103, 115, 58, 32, 74, 111, 105, 110, 32, 111, 117, 116, 112, 117, 116, 32, 108, 101, 110, 103, 116, 104, 32, 111, 118, 101, 114, 102, 108, 111, 119] }))⟩,
            ⟨none, .none, true, 0, .panic (.tmp 50)⟩])
          .skip)))
      (.region [⟨some 51, .none, true, 3, .move (.tmp 5)⟩,
        ⟨some 52, .none, true, 9, .move (.tmp 7)⟩,
        ⟨some 53, .none, true, 3, .call { callee := .builtin .len, args := #[.tmp 52], argTypes := #[9] }⟩,
        ⟨some 54, .none, true, 3, .binOp .add 3 (.tmp 51) (.tmp 53) 3⟩,
        ⟨some 5, .none, true, 3, .assign (.tmp 54)⟩])))))
  (.keep [0, 1, 5, 39, 40, 41]
  (.region [⟨some 55, .none, true, 3, .binOp .add 3 (.tmp 41) (.const (.int .i64 1)) 3⟩,
    ⟨some 41, .none, true, 3, .move (.tmp 55)⟩])))))))
def rc_strings_Joinl1 : RCode :=
  (.seq
    (.region [⟨some 66, .none, true, 0, .binOp .lss 3 (.tmp 65) (.tmp 64) 3⟩])
  (.keep [1, 8, 63, 64, 65, 66]
  (.seq
    (.cond (.tmp 66)
      .skip
      (.exit 3))
  (.keep [1, 8, 63, 64, 65]
  (.seq
    (.block 4
      (.seq
        (.region [⟨some 67, .none, true, 0, .indexAddr 65 (.tmp 63) (.tmp 65)⟩,
          ⟨some 68, .none, true, 9, .load 9 (.tmp 67)⟩,
          ⟨some 10, .none, true, 9, .assign (.tmp 68)⟩])
      (.keep [1, 8, 10, 63, 64, 65]
      (.seq
        (.region [⟨some 69, .none, true, 9, .move (.tmp 1)⟩,
          ⟨some 70, .none, true, 89, .call { callee := .value (.func 67), args := #[.tmp 8, .tmp 69], argTypes := #[95, 9] }⟩])
      (.keep [1, 8, 10, 63, 64, 65]
      (.region [⟨some 71, .none, true, 9, .move (.tmp 10)⟩,
        ⟨some 72, .none, true, 89, .call { callee := .value (.func 67), args := #[.tmp 8, .tmp 71], argTypes := #[95, 9] }⟩]))))))
  (.keep [1, 8, 63, 64, 65]
  (.region [⟨some 73, .none, true, 3, .binOp .add 3 (.tmp 65) (.const (.int .i64 1)) 3⟩,
    ⟨some 65, .none, true, 3, .move (.tmp 73)⟩])))))))
def rc_strings_Join : RCode :=
  (.seq
    (.region [⟨some 4, .none, true, 9, .assign (.const (.string { data := #[] }))⟩])
  (.keep [0, 1]
  (.seq
    (.seq
      (.region [⟨some 11, .none, true, 65, .move (.tmp 0)⟩,
        ⟨some 12, .none, true, 3, .call { callee := .builtin .len, args := #[.tmp 11], argTypes := #[65] }⟩])
    (.keep [0, 1, 12]
    (.block 0
      (.seq
        (.region [⟨some 14, .none, true, 4, .binOp .eql 3 (.tmp 12) (.const (.int .i64 0)) 3⟩,
          ⟨some 13, .none, true, 4, .assign (.tmp 14)⟩])
      (.keep [0, 1, 12, 13]
      (.cond (.tmp 13)
        (.seq
          (.region [⟨some 4, .none, true, 9, .assign (.const (.string { data := #[] }))⟩])
        .ret)
        (.seq
          (.region [⟨some 16, .none, true, 4, .binOp .eql 3 (.tmp 12) (.const (.int .i64 1)) 3⟩,
            ⟨some 15, .none, true, 4, .assign (.tmp 16)⟩])
        (.keep [0, 1, 15]
        (.cond (.tmp 15)
          (.seq
            (.region [⟨some 17, .none, true, 65, .move (.tmp 0)⟩,
              ⟨some 18, .none, true, 0, .indexAddr 65 (.tmp 17) (.const (.int .i64 0))⟩,
              ⟨some 19, .none, true, 9, .load 9 (.tmp 18)⟩,
              ⟨some 4, .none, true, 9, .assign (.tmp 19)⟩])
          .ret)
          .skip)))))))))
  (.seq
    (.region [⟨some 5, .none, true, 3, .assign (.const (.int .i64 0))⟩])
  (.keep [0, 1, 5]
  (.seq
    (.seq
      (.region [⟨some 20, .none, true, 9, .move (.tmp 1)⟩,
        ⟨some 21, .none, true, 3, .call { callee := .builtin .len, args := #[.tmp 20], argTypes := #[9] }⟩,
        ⟨some 22, .none, true, 4, .binOp .gtr 3 (.tmp 21) (.const (.int .i64 0)) 3⟩])
    (.keep [0, 1, 5, 22]
    (.cond (.tmp 22)
      (.seq
        (.seq
          (.region [⟨some 23, .none, true, 9, .move (.tmp 1)⟩,
            ⟨some 24, .none, true, 3, .call { callee := .builtin .len, args := #[.tmp 23], argTypes := #[9] }⟩,
            ⟨some 25, .none, true, 65, .move (.tmp 0)⟩,
            ⟨some 26, .none, true, 3, .call { callee := .builtin .len, args := #[.tmp 25], argTypes := #[65] }⟩,
            ⟨some 27, .none, true, 3, .binOp .sub 3 (.tmp 26) (.const (.int .i64 1)) 3⟩,
            ⟨some 28, .none, true, 3, .binOp .quo 3 (.const (.int .i64 9223372036854775807)) (.tmp 27) 3⟩,
            ⟨some 29, .none, true, 4, .binOp .geq 3 (.tmp 24) (.tmp 28) 3⟩])
        (.keep [0, 1, 5, 29]
        (.cond (.tmp 29)
          (.region [⟨some 30, .none, true, 20, .makeInterface 9 (.const (.string { data := #[115, 116, 114, 105, 110, 103, 115, 58, 32, 74, 111, 105, 110, 32, 111, 117, 116, 112, 117, 116, 32, 108, 101, 110, 103, 116, 104, 32, 111, 118, 101, 114, 102, 108, 111, 119] }))⟩,
            ⟨none, .none, true, 0, .panic (.tmp 30)⟩])
          .skip)))
      (.region [⟨some 31, .none, true, 3, .move (.tmp 5)⟩,
        ⟨some 32, .none, true, 9, .move (.tmp 1)⟩,
        ⟨some 33, .none, true, 3, .call { callee := .builtin .len, args := #[.tmp 32], argTypes := #[9] }⟩,
        ⟨some 34, .none, true, 65, .move (.tmp 0)⟩,
        ⟨some 35, .none, true, 3, .call { callee := .builtin .len, args := #[.tmp 34], argTypes := #[65] }⟩,
        ⟨some 36, .none, true, 3, .binOp .sub 3 (.tmp 35) (.const (.int .i64 1)) 3⟩,
        ⟨some 37, .none, true, 3, .binOp .mul 3 (.tmp 33) (.tmp 36) 3⟩,
        ⟨some 38, .none, true, 3, .binOp .add 3 (.tmp 31) (.tmp 37) 3⟩,
        ⟨some 5, .none, true, 3, .assign (.tmp 38)⟩]))
      .skip)))
  (.seq
    (.seq
      (.region [⟨some 39, .none, true, 65, .move (.tmp 0)⟩,
        ⟨some 40, .none, true, 3, .call { callee := .builtin .len, args := #[.tmp 39], argTypes := #[65] }⟩,
        ⟨some 41, .none, true, 3, .move (.const (.int .i64 0))⟩])
    (.keep [0, 1, 5, 39, 40, 41]
    (.block 1
      (.loop [0, 1, 5, 39, 40, 41] rc_strings_Joinl0))))
  (.seq
    (.region [⟨some 8, .none, true, 0, .alloc 95⟩])
  (.keep [0, 1, 5, 8]
  (.seq
    (.region [⟨some 56, .none, true, 3, .move (.tmp 5)⟩,
      ⟨some 57, .none, true, 0, .call { callee := .value (.func 66), args := #[.tmp 8, .tmp 56], argTypes := #[95, 3] }⟩])
  (.keep [0, 1, 8]
  (.seq
    (.region [⟨some 58, .none, true, 65, .move (.tmp 0)⟩,
      ⟨some 59, .none, true, 0, .indexAddr 65 (.tmp 58) (.const (.int .i64 0))⟩,
      ⟨some 60, .none, true, 9, .load 9 (.tmp 59)⟩,
      ⟨some 61, .none, true, 89, .call { callee := .value (.func 67), args := #[.tmp 8, .tmp 60], argTypes := #[95, 9] }⟩])
  (.keep [0, 1, 8]
  (.seq
    (.seq
      (.region [⟨some 62, .none, true, 65, .move (.tmp 0)⟩,
        ⟨some 63, .none, true, 65, .slice 65 (.tmp 62) (some (.const (.int .i64 1))) none none⟩,
        ⟨some 64, .none, true, 3, .call { callee := .builtin .len, args := #[.tmp 63], argTypes := #[65] }⟩,
        ⟨some 65, .none, true, 3, .move (.const (.int .i64 0))⟩])
    (.keep [1, 8, 63, 64, 65]
    (.block 3
      (.loop [1, 8, 63, 64, 65] rc_strings_Joinl1))))
  (.seq
    (.region [⟨some 74, .none, true, 9, .call { callee := .value (.func 68), args := #[.tmp 8], argTypes := #[95] }⟩,
      ⟨some 4, .none, true, 9, .assign (.tmp 74)⟩])
  .ret)))))))))))))))
theorem t_strings_Join : FnT Tryd.prog f_strings_Join rc_strings_Join [.tmp 4] 2 := ⟨⟨[], Tryd.f45, _, Tryd.func45, rfl, by kernel_rfl, by kernel_rfl, by kernel_rfl, rfl, by decide⟩, by kernel_rfl⟩
/-- reeve/tag.Put -/
abbrev f_tag_Put : FuncId := 47
def rc_tag_Putl0 : RCode :=
  (.seq
    (.region [⟨some 22, .none, true, 0, .binOp .lss 3 (.tmp 21) (.tmp 20) 3⟩])
  (.keep [1, 6, 19, 20, 21, 22]
  (.seq
    (.cond (.tmp 22)
      .skip
      (.exit 0))
  (.keep [1, 6, 19, 20, 21]
  (.seq
    (.block 1
      (.seq
        (.region [⟨some 23, .none, true, 3, .move (.tmp 21)⟩,
          ⟨some 24, .none, true, 0, .indexAddr 78 (.tmp 19) (.tmp 21)⟩,
          ⟨some 25, .none, true, 100, .load 100 (.tmp 24)⟩,
          ⟨some 8, .none, true, 0, .alloc 100⟩,
          ⟨some 7, .none, true, 3, .assign (.tmp 23)⟩,
          ⟨none, .none, true, 0, .store 100 (.tmp 8) (.tmp 25)⟩])
      (.keep [1, 6, 7, 8, 19, 20, 21]
      (.seq
        (.seq
          (.region [⟨some 26, .none, false, 66, .move (.tmp 1)⟩,
            ⟨some 27, .none, false, 3, .move (.tmp 7)⟩,
            ⟨some 28, .none, false, 0, .indexAddr 66 (.tmp 26) (.tmp 27)⟩,
            ⟨some 29, .none, false, 27, .load 27 (.tmp 28)⟩,
            ⟨some 30, .none, false, 100, .load 100 (.tmp 8)⟩,
            ⟨some 31, .none, false, 27, .call { callee := .value (.func 70), args := #[.tmp 30], argTypes := #[100] }⟩,
            ⟨some 32, .none, false, 0, .fieldAddr 100 (.tmp 8) 0⟩,
            ⟨some 33, .none, false, 3, .load 3 (.tmp 32)⟩,
            ⟨some 34, .none, false, 27, .binOp .shr 27 (.tmp 31) (.tmp 33) 3⟩,
            ⟨some 35, .none, true, 4, .binOp .gtr 27 (.tmp 29) (.tmp 34) 27⟩])
        (.keep [1, 6, 7, 8, 19, 20, 21, 35]
        (.cond (.tmp 35)
          (.seq
            (.region [⟨some 4, .none, true, 27, .assign (.const (.int .u64 0))⟩,
              ⟨some 5, .none, true, 4, .assign (.const (.bool false))⟩])
          .ret)
          .skip)))
      (.region [⟨some 36, .none, false, 27, .move (.tmp 6)⟩,
        ⟨some 37, .none, false, 66, .move (.tmp 1)⟩,
        ⟨some 38, .none, false, 3, .move (.tmp 7)⟩,
        ⟨some 39, .none, false, 0, .indexAddr 66 (.tmp 37) (.tmp 38)⟩,
        ⟨some 40, .none, false, 27, .load 27 (.tmp 39)⟩,
        ⟨some 41, .none, false, 0, .fieldAddr 100 (.tmp 8) 0⟩,
        ⟨some 42, .none, false, 3, .load 3 (.tmp 41)⟩,
        ⟨some 43, .none, true, 27, .binOp .shl 27 (.tmp 40) (.tmp 42) 3⟩,
        ⟨some 44, .none, true, 27, .binOp .or 27 (.tmp 36) (.tmp 43) 27⟩,
        ⟨some 6, .none, true, 27, .assign (.tmp 44)⟩])))))
  (.keep [1, 6, 19, 20, 21]
  (.region [⟨some 45, .none, true, 3, .binOp .add 3 (.tmp 21) (.const (.int .i64 1)) 3⟩,
    ⟨some 21, .none, true, 3, .move (.tmp 45)⟩])))))))
def rc_tag_Put : RCode :=
  (.seq
    (.region [⟨some 4, .none, true, 27, .assign (.const (.int .u64 0))⟩,
      ⟨some 5, .none, true, 4, .assign (.const (.bool false))⟩])
  (.keep [0, 1]
  (.seq
    (.seq
      (.region [⟨some 9, .none, true, 78, .move (.tmp 0)⟩,
        ⟨some 10, .none, true, 4, .call { callee := .value (.func 69), args := #[.tmp 9], argTypes := #[78] }⟩,
        ⟨some 11, .none, true, 4, .unOp .not 4 (.tmp 10)⟩,
        ⟨some 12, .none, true, 4, .move (.tmp 11)⟩,
        ⟨some 13, .some 12 false, true, 78, .move (.tmp 0)⟩,
        ⟨some 14, .some 12 false, true, 3, .call { callee := .builtin .len, args := #[.tmp 13], argTypes := #[78] }⟩,
        ⟨some 15, .some 12 false, true, 66, .move (.tmp 1)⟩,
        ⟨some 16, .some 12 false, true, 3, .call { callee := .builtin .len, args := #[.tmp 15], argTypes := #[66] }⟩,
        ⟨some 17, .some 12 false, true, 4, .binOp .neq 3 (.tmp 14) (.tmp 16) 3⟩,
        ⟨some 18, .none, true, 4, .pick (.tmp 12) (.const (.bool true)) (.tmp 17)⟩])
    (.keep [0, 1, 18]
    (.cond (.tmp 18)
      (.seq
        (.region [⟨some 4, .none, true, 27, .assign (.const (.int .u64 0))⟩,
          ⟨some 5, .none, true, 4, .assign (.const (.bool false))⟩])
      .ret)
      .skip)))
  (.seq
    (.region [⟨some 6, .none, true, 27, .assign (.const (.int .u64 0))⟩])
  (.keep [0, 1, 6]
  (.seq
    (.seq
      (.region [⟨some 19, .none, true, 78, .move (.tmp 0)⟩,
        ⟨some 20, .none, true, 3, .call { callee := .builtin .len, args := #[.tmp 19], argTypes := #[78] }⟩,
        ⟨some 21, .none, true, 3, .move (.const (.int .i64 0))⟩])
    (.keep [1, 6, 19, 20, 21]
    (.block 0
      (.loop [1, 6, 19, 20, 21] rc_tag_Putl0))))
  (.seq
    (.region [⟨some 46, .none, true, 27, .move (.tmp 6)⟩,
      ⟨some 4, .none, true, 27, .assign (.tmp 46)⟩,
      ⟨some 5, .none, true, 4, .assign (.const (.bool true))⟩])
  .ret)))))))
theorem t_tag_Put : FnT Tryd.prog f_tag_Put rc_tag_Put [.tmp 4, .tmp 5] 2 := ⟨⟨[], Tryd.f47, _, Tryd.func47, rfl, by kernel_rfl, by kernel_rfl, by kernel_rfl, rfl, by decide⟩, by kernel_rfl⟩
/-- reeve/cap.fields -/
abbrev f_cap_fields : FuncId := 48
def rc_cap_fields : RCode :=
  (.seq
    (.region [⟨some 0, .none, true, 78, .assign (.const (.slice none 0 0))⟩])
  (.keep []
  (.seq
    (.region [⟨some 1, .none, true, 100, .build 100 #[(0, .const (.int .i64 0)), (1, .const (.int .i64 8))]⟩,
      ⟨some 2, .none, true, 100, .build 100 #[(0, .const (.int .i64 8)), (1, .const (.int .i64 8))]⟩,
      ⟨some 3, .none, true, 100, .build 100 #[(0, .const (.int .i64 16)), (1, .const (.int .i64 16))]⟩,
      ⟨some 4, .none, true, 100, .build 100 #[(0, .const (.int .i64 32)), (1, .const (.int .i64 16))]⟩,
      ⟨some 5, .none, true, 78, .buildSlice 78 4 #[(0, .tmp 1), (1, .tmp 2), (2, .tmp 3), (3, .tmp 4)]⟩,
      ⟨some 0, .none, true, 78, .assign (.tmp 5)⟩])
  .ret)))
theorem t_cap_fields : FnT Tryd.prog f_cap_fields rc_cap_fields [.tmp 0] 0 := ⟨⟨[], Tryd.f48, _, Tryd.func48, rfl, by kernel_rfl, by kernel_rfl, by kernel_rfl, rfl, by decide⟩, by kernel_rfl⟩
/-- reeve/tag.Get -/
abbrev f_tag_Get : FuncId := 49
def rc_tag_Getl0 : RCode :=
  (.seq
    (.region [⟨some 17, .none, true, 0, .binOp .lss 3 (.tmp 16) (.tmp 15) 3⟩])
  (.keep [0, 5, 14, 15, 16, 17]
  (.seq
    (.cond (.tmp 17)
      .skip
      (.exit 0))
  (.keep [0, 5, 14, 15, 16]
  (.seq
    (.block 1
      (.seq
        (.region [⟨some 18, .none, true, 0, .indexAddr 78 (.tmp 14) (.tmp 16)⟩,
          ⟨some 19, .none, true, 100, .load 100 (.tmp 18)⟩,
          ⟨some 7, .none, true, 0, .alloc 100⟩,
          ⟨none, .none, true, 0, .store 100 (.tmp 7) (.tmp 19)⟩])
      (.keep [0, 5, 7, 14, 15, 16]
      (.region [⟨some 20, .none, false, 66, .move (.tmp 5)⟩,
        ⟨some 21, .none, false, 27, .move (.tmp 0)⟩,
        ⟨some 22, .none, false, 100, .load 100 (.tmp 7)⟩,
        ⟨some 23, .none, false, 27, .call { callee := .value (.func 70), args := #[.tmp 22], argTypes := #[100] }⟩,
        ⟨some 24, .none, false, 27, .binOp .and 27 (.tmp 21) (.tmp 23) 27⟩,
        ⟨some 25, .none, false, 0, .fieldAddr 100 (.tmp 7) 0⟩,
        ⟨some 26, .none, false, 3, .load 3 (.tmp 25)⟩,
        ⟨some 27, .none, true, 27, .binOp .shr 27 (.tmp 24) (.tmp 26) 3⟩,
        ⟨some 28, .none, true, 66, .buildSlice 66 1 #[(0, .tmp 27)]⟩,
        ⟨some 29, .none, true, 66, .call { callee := .builtin .append, args := #[.tmp 20, .tmp 28], argTypes := #[66, 66] }⟩,
        ⟨some 5, .none, true, 66, .assign (.tmp 29)⟩]))))
  (.keep [0, 5, 14, 15, 16]
  (.region [⟨some 30, .none, true, 3, .binOp .add 3 (.tmp 16) (.const (.int .i64 1)) 3⟩,
    ⟨some 16, .none, true, 3, .move (.tmp 30)⟩])))))))
def rc_tag_Get : RCode :=
  (.seq
    (.region [⟨some 4, .none, true, 66, .assign (.const (.slice none 0 0))⟩])
  (.keep [0, 1]
  (.seq
    (.seq
      (.region [⟨some 8, .none, true, 78, .move (.tmp 1)⟩,
        ⟨some 9, .none, true, 4, .call { callee := .value (.func 69), args := #[.tmp 8], argTypes := #[78] }⟩,
        ⟨some 10, .none, true, 4, .unOp .not 4 (.tmp 9)⟩])
    (.keep [0, 1, 10]
    (.cond (.tmp 10)
      (.seq
        (.region [⟨some 4, .none, true, 66, .assign (.const (.slice none 0 0))⟩])
      .ret)
      .skip)))
  (.seq
    (.region [⟨some 11, .none, true, 78, .move (.tmp 1)⟩,
      ⟨some 12, .none, true, 3, .call { callee := .builtin .len, args := #[.tmp 11], argTypes := #[78] }⟩,
      ⟨some 13, .none, true, 66, .makeSlice 66 (.const (.int .i64 0)) (.tmp 12)⟩,
      ⟨some 5, .none, true, 66, .assign (.tmp 13)⟩])
  (.keep [0, 1, 5]
  (.seq
    (.seq
      (.region [⟨some 14, .none, true, 78, .move (.tmp 1)⟩,
        ⟨some 15, .none, true, 3, .call { callee := .builtin .len, args := #[.tmp 14], argTypes := #[78] }⟩,
        ⟨some 16, .none, true, 3, .move (.const (.int .i64 0))⟩])
    (.keep [0, 5, 14, 15, 16]
    (.block 0
      (.loop [0, 5, 14, 15, 16] rc_tag_Getl0))))
  (.seq
    (.region [⟨some 31, .none, true, 66, .move (.tmp 5)⟩,
      ⟨some 4, .none, true, 66, .assign (.tmp 31)⟩])
  .ret)))))))
theorem t_tag_Get : FnT Tryd.prog f_tag_Get rc_tag_Get [.tmp 4] 2 := ⟨⟨[], Tryd.f49, _, Tryd.func49, rfl, by kernel_rfl, by kernel_rfl, by kernel_rfl, rfl, by decide⟩, by kernel_rfl⟩
/-- reeve/tag.Rest -/
abbrev f_tag_Rest : FuncId := 50
def rc_tag_Rest : RCode :=
  (.seq
    (.region [⟨some 4, .none, true, 27, .assign (.const (.int .u64 0))⟩])
  (.keep [0, 1]
  (.seq
    (.region [⟨some 8, .none, true, 78, .move (.tmp 1)⟩,
      ⟨some 9, .none, true, 28, .call { callee := .value (.func 71), args := #[.tmp 8], argTypes := #[78] }⟩,
      ⟨some 7, .none, true, 28, .move (.tmp 9)⟩,
      ⟨some 10, .none, true, 27, .extract (.tmp 7) 0⟩,
      ⟨some 11, .none, true, 4, .extract (.tmp 7) 1⟩,
      ⟨some 5, .none, true, 27, .assign (.tmp 10)⟩,
      ⟨some 6, .none, true, 4, .assign (.tmp 11)⟩])
  (.keep [0, 5]
  (.seq
    (.region [⟨some 12, .none, true, 27, .move (.tmp 0)⟩,
      ⟨some 13, .none, true, 27, .move (.tmp 5)⟩,
      ⟨some 14, .none, true, 27, .binOp .andNot 27 (.tmp 12) (.tmp 13) 27⟩,
      ⟨some 4, .none, true, 27, .assign (.tmp 14)⟩])
  .ret)))))
theorem t_tag_Rest : FnT Tryd.prog f_tag_Rest rc_tag_Rest [.tmp 4] 2 := ⟨⟨[], Tryd.f50, _, Tryd.func50, rfl, by kernel_rfl, by kernel_rfl, by kernel_rfl, rfl, by decide⟩, by kernel_rfl⟩
/-- reeve/cap.in -/
abbrev f_cap_in : FuncId := 51
def rc_cap_in : RCode :=
  (.seq
    (.region [⟨some 6, .none, true, 4, .assign (.const (.bool false))⟩])
  (.keep [0, 1, 2]
  (.seq
    (.region [⟨some 7, .none, true, 3, .move (.tmp 0)⟩,
      ⟨some 8, .none, true, 3, .move (.tmp 1)⟩,
      ⟨some 9, .none, true, 4, .binOp .geq 3 (.tmp 7) (.tmp 8) 3⟩,
      ⟨some 10, .none, true, 4, .move (.tmp 9)⟩,
      ⟨some 11, .some 10 true, true, 3, .move (.tmp 0)⟩,
      ⟨some 12, .some 10 true, true, 3, .move (.tmp 2)⟩,
      ⟨some 13, .some 10 true, true, 4, .binOp .leq 3 (.tmp 11) (.tmp 12) 3⟩,
      ⟨some 14, .none, true, 4, .pick (.tmp 10) (.tmp 13) (.const (.bool false))⟩,
      ⟨some 6, .none, true, 4, .assign (.tmp 14)⟩])
  .ret)))
theorem t_cap_in : FnT Tryd.prog f_cap_in rc_cap_in [.tmp 6] 3 := ⟨⟨[], Tryd.f51, _, Tryd.func51, rfl, by kernel_rfl, by kernel_rfl, by kernel_rfl, rfl, by decide⟩, by kernel_rfl⟩
/-- reeve/right.Good -/
abbrev f_right_Good : FuncId := 52
def rc_right_Good : RCode :=
  (.seq
    (.region [⟨some 2, .none, true, 4, .assign (.const (.bool false))⟩])
  (.keep [0]
  (.seq
    (.region [⟨some 3, .none, true, 3, .move (.tmp 0)⟩,
      ⟨some 4, .none, true, 4, .binOp .geq 3 (.tmp 3) (.const (.int .i64 0)) 3⟩,
      ⟨some 5, .none, true, 4, .move (.tmp 4)⟩,
      ⟨some 6, .some 5 true, true, 3, .move (.tmp 0)⟩,
      ⟨some 7, .some 5 true, true, 4, .binOp .leq 3 (.tmp 6) (.const (.int .i64 7)) 3⟩,
      ⟨some 8, .none, true, 4, .pick (.tmp 5) (.tmp 7) (.const (.bool false))⟩,
      ⟨some 2, .none, true, 4, .assign (.tmp 8)⟩])
  .ret)))
theorem t_right_Good : FnT Tryd.prog f_right_Good rc_right_Good [.tmp 2] 1 := ⟨⟨[], Tryd.f52, _, Tryd.func52, rfl, by kernel_rfl, by kernel_rfl, by kernel_rfl, rfl, by decide⟩, by kernel_rfl⟩
/-- reeve/right.Badge -/
abbrev f_right_Badge : FuncId := 53
def rc_right_Badge : RCode :=
  (.seq
    (.region [⟨some 2, .none, true, 4, .assign (.const (.bool false))⟩])
  (.keep [0]
  (.seq
    (.region [⟨some 3, .none, true, 3, .move (.tmp 0)⟩,
      ⟨some 4, .none, true, 4, .binOp .geq 3 (.tmp 3) (.const (.int .i64 0)) 3⟩,
      ⟨some 5, .none, true, 4, .move (.tmp 4)⟩,
      ⟨some 6, .some 5 true, true, 3, .move (.tmp 0)⟩,
      ⟨some 7, .some 5 true, true, 4, .binOp .leq 3 (.tmp 6) (.const (.int .i64 65535)) 3⟩,
      ⟨some 8, .none, true, 4, .pick (.tmp 5) (.tmp 7) (.const (.bool false))⟩,
      ⟨some 2, .none, true, 4, .assign (.tmp 8)⟩])
  .ret)))
theorem t_right_Badge : FnT Tryd.prog f_right_Badge rc_right_Badge [.tmp 2] 1 := ⟨⟨[], Tryd.f53, _, Tryd.func53, rfl, by kernel_rfl, by kernel_rfl, by kernel_rfl, rfl, by decide⟩, by kernel_rfl⟩
/-- reeve/cap.badged -/
abbrev f_cap_badged : FuncId := 54
def rc_cap_badged : RCode :=
  (.seq
    (.region [⟨some 2, .none, true, 4, .assign (.const (.bool false))⟩])
  (.keep [0]
  (.seq
    (.region [⟨some 3, .none, true, 3, .move (.tmp 0)⟩,
      ⟨some 4, .none, true, 4, .binOp .eql 3 (.tmp 3) (.const (.int .i64 3)) 3⟩,
      ⟨some 5, .none, true, 4, .move (.tmp 4)⟩,
      ⟨some 6, .some 5 false, true, 3, .move (.tmp 0)⟩,
      ⟨some 7, .some 5 false, true, 4, .binOp .eql 3 (.tmp 6) (.const (.int .i64 4)) 3⟩,
      ⟨some 8, .none, true, 4, .pick (.tmp 5) (.const (.bool true)) (.tmp 7)⟩,
      ⟨some 2, .none, true, 4, .assign (.tmp 8)⟩])
  .ret)))
theorem t_cap_badged : FnT Tryd.prog f_cap_badged rc_cap_badged [.tmp 2] 1 := ⟨⟨[], Tryd.f54, _, Tryd.func54, rfl, by kernel_rfl, by kernel_rfl, by kernel_rfl, rfl, by decide⟩, by kernel_rfl⟩
/-- reeve/right.Both -/
abbrev f_right_Both : FuncId := 55
def rc_right_Both : RCode :=
  (.seq
    (.region [⟨some 4, .none, true, 3, .assign (.const (.int .i64 0))⟩])
  (.keep [0, 1]
  (.seq
    (.region [⟨some 5, .none, true, 3, .move (.tmp 0)⟩,
      ⟨some 6, .none, true, 3, .call { callee := .value (.func 72), args := #[.tmp 5], argTypes := #[3] }⟩,
      ⟨some 7, .none, true, 3, .move (.tmp 1)⟩,
      ⟨some 8, .none, true, 3, .call { callee := .value (.func 72), args := #[.tmp 7], argTypes := #[3] }⟩,
      ⟨some 9, .none, true, 3, .binOp .and 3 (.tmp 6) (.tmp 8) 3⟩,
      ⟨some 4, .none, true, 3, .assign (.tmp 9)⟩])
  .ret)))
theorem t_right_Both : FnT Tryd.prog f_right_Both rc_right_Both [.tmp 4] 2 := ⟨⟨[], Tryd.f55, _, Tryd.func55, rfl, by kernel_rfl, by kernel_rfl, by kernel_rfl, rfl, by decide⟩, by kernel_rfl⟩
/-- reeve/right.Text -/
abbrev f_right_Text : FuncId := 56
def rc_right_Textl0 : RCode :=
  (.seq
    (.region [⟨some 7, .none, true, 0, .next (.tmp 6) true⟩,
      ⟨some 8, .none, true, 4, .extract (.tmp 7) 0⟩])
  (.keep [0, 3, 6, 7, 8]
  (.seq
    (.cond (.tmp 8)
      .skip
      (.exit 0))
  (.keep [0, 3, 6, 7]
  (.block 1
    (.seq
      (.region [⟨some 9, .none, true, 3, .extract (.tmp 7) 1⟩,
        ⟨some 10, .none, true, 21, .extract (.tmp 7) 2⟩,
        ⟨some 4, .none, true, 3, .assign (.tmp 9)⟩,
        ⟨some 5, .none, true, 21, .assign (.tmp 10)⟩])
    (.keep [0, 3, 4, 5, 6]
    (.seq
      (.region [⟨some 11, .none, true, 3, .move (.tmp 0)⟩,
        ⟨some 12, .none, true, 3, .call { callee := .value (.func 72), args := #[.tmp 11], argTypes := #[3] }⟩,
        ⟨some 13, .none, true, 3, .move (.tmp 4)⟩,
        ⟨some 14, .none, true, 3, .binOp .shr 3 (.tmp 12) (.tmp 13) 3⟩,
        ⟨some 15, .none, true, 3, .binOp .and 3 (.tmp 14) (.const (.int .i64 1)) 3⟩,
        ⟨some 16, .none, true, 4, .binOp .eql 3 (.tmp 15) (.const (.int .i64 1)) 3⟩])
    (.keep [0, 3, 5, 6, 16]
    (.cond (.tmp 16)
      (.region [⟨some 17, .none, true, 9, .move (.tmp 3)⟩,
        ⟨some 18, .none, true, 21, .move (.tmp 5)⟩,
        ⟨some 19, .none, true, 9, .convert 21 9 (.tmp 18)⟩,
        ⟨some 20, .none, true, 9, .binOp .add 9 (.tmp 17) (.tmp 19) 9⟩,
        ⟨some 3, .none, true, 9, .assign (.tmp 20)⟩])
      .skip))))))))))
def rc_right_Text : RCode :=
  (.seq
    (.region [⟨some 2, .none, true, 9, .assign (.const (.string { data := #[] }))⟩])
  (.keep [0]
  (.seq
    (.region [⟨some 3, .none, true, 9, .assign (.const (.string { data := #[] }))⟩])
  (.keep [0, 3]
  (.seq
    (.seq
      (.region [⟨some 6, .none, true, 0, .range 9 (.const (.string { data := #[114, 119, 103] }))⟩])
    (.keep [0, 3, 6]
    (.block 0
      (.loop [0, 3, 6] rc_right_Textl0))))
  (.seq
    (.seq
      (.region [⟨some 21, .none, true, 9, .move (.tmp 3)⟩,
        ⟨some 22, .none, true, 4, .binOp .eql 9 (.tmp 21) (.const (.string { data := #[] })) 9⟩])
    (.keep [3, 22]
    (.cond (.tmp 22)
      (.seq
        (.region [⟨some 2, .none, true, 9, .assign (.const (.string { data := #[45] }))⟩])
      .ret)
      .skip)))
  (.seq
    (.region [⟨some 23, .none, true, 9, .move (.tmp 3)⟩,
      ⟨some 2, .none, true, 9, .assign (.tmp 23)⟩])
  .ret)))))))
theorem t_right_Text : FnT Tryd.prog f_right_Text rc_right_Text [.tmp 2] 1 := ⟨⟨[], Tryd.f56, _, Tryd.func56, rfl, by kernel_rfl, by kernel_rfl, by kernel_rfl, rfl, by decide⟩, by kernel_rfl⟩
/-- reeve/right.Within -/
abbrev f_right_Within : FuncId := 57
def rc_right_Within : RCode :=
  (.seq
    (.region [⟨some 4, .none, true, 4, .assign (.const (.bool false))⟩])
  (.keep [0, 1]
  (.seq
    (.region [⟨some 5, .none, true, 3, .move (.tmp 0)⟩,
      ⟨some 6, .none, true, 3, .move (.tmp 1)⟩,
      ⟨some 7, .none, true, 3, .call { callee := .value (.func 73), args := #[.tmp 5, .tmp 6], argTypes := #[3, 3] }⟩,
      ⟨some 8, .none, true, 4, .binOp .eql 3 (.tmp 7) (.const (.int .i64 0)) 3⟩,
      ⟨some 4, .none, true, 4, .assign (.tmp 8)⟩])
  .ret)))
theorem t_right_Within : FnT Tryd.prog f_right_Within rc_right_Within [.tmp 4] 2 := ⟨⟨[], Tryd.f57, _, Tryd.func57, rfl, by kernel_rfl, by kernel_rfl, by kernel_rfl, rfl, by decide⟩, by kernel_rfl⟩
/-- internal/strconv.Itoa -/
abbrev f_internal_strconv_Itoa : FuncId := 65
def rc_internal_strconv_Itoa : RCode :=
  (.seq
    (.region [⟨some 2, .none, true, 9, .assign (.const (.string { data := #[] }))⟩])
  (.keep [0]
  (.seq
    (.region [⟨some 3, .none, true, 3, .move (.tmp 0)⟩,
      ⟨some 4, .none, true, 9, .call { callee := .value (.func 79), args := #[.tmp 3, .const (.int .i64 10)], argTypes := #[2, 3] }⟩,
      ⟨some 2, .none, true, 9, .assign (.tmp 4)⟩])
  .ret)))
theorem t_internal_strconv_Itoa : FnT Tryd.prog f_internal_strconv_Itoa rc_internal_strconv_Itoa [.tmp 2] 1 := ⟨⟨[], Tryd.f65, _, Tryd.func65, rfl, by kernel_rfl, by kernel_rfl, by kernel_rfl, rfl, by decide⟩, by kernel_rfl⟩
/-- (*strings.Builder).Grow -/
abbrev f_P_strings_Builder_Grow : FuncId := 66
def rc_P_strings_Builder_Grow : RCode :=
  (.seq
    (.region [⟨some 4, .none, true, 92, .move (.tmp 0)⟩,
      ⟨some 5, .none, true, 0, .call { callee := .value (.func 80), args := #[.tmp 4], argTypes := #[92] }⟩])
  (.keep [0, 1]
  (.seq
    (.seq
      (.region [⟨some 6, .none, true, 3, .move (.tmp 1)⟩,
        ⟨some 7, .none, true, 4, .binOp .lss 3 (.tmp 6) (.const (.int .i64 0)) 3⟩])
    (.keep [0, 1, 7]
    (.cond (.tmp 7)
      (.region [⟨some 8, .none, true, 20, .makeInterface 9 (.const (.string { data := #[115, 116, 114, 105, 110, 103, 115, 46, 66, 117, 105, 108, 100, 101, 114, 46, 71, 114, 111, 119, 58, 32, 110, 101, 103, 97, 116, 105, 118, 101, 32, 99, 111, 117, 110, 116] }))⟩,
        ⟨none, .none, true, 0, .panic (.tmp 8)⟩])
      .skip)))
  (.seq
    (.region [⟨some 9, .none, false, 92, .move (.tmp 0)⟩,
      ⟨some 10, .none, false, 0, .nilCheck (.tmp 9)⟩,
      ⟨some 11, .none, false, 0, .fieldAddr 95 (.tmp 10) 1⟩,
      ⟨some 12, .none, false, 93, .load 93 (.tmp 11)⟩,
      ⟨some 13, .none, false, 3, .call { callee := .builtin .cap, args := #[.tmp 12], argTypes := #[93] }⟩,
      ⟨some 14, .none, false, 92, .move (.tmp 0)⟩,
      ⟨some 15, .none, false, 0, .nilCheck (.tmp 14)⟩,
      ⟨some 16, .none, false, 0, .fieldAddr 95 (.tmp 15) 1⟩,
      ⟨some 17, .none, false, 93, .load 93 (.tmp 16)⟩,
      ⟨some 18, .none, false, 3, .call { callee := .builtin .len, args := #[.tmp 17], argTypes := #[93] }⟩,
      ⟨some 19, .none, true, 3, .binOp .sub 3 (.tmp 13) (.tmp 18) 3⟩,
      ⟨some 20, .none, false, 3, .move (.tmp 1)⟩,
      ⟨some 21, .none, true, 4, .binOp .lss 3 (.tmp 19) (.tmp 20) 3⟩])
  (.keep [0, 1, 21]
  (.cond (.tmp 21)
    (.region [⟨some 22, .none, true, 92, .move (.tmp 0)⟩,
      ⟨some 23, .none, true, 3, .move (.tmp 1)⟩,
      ⟨some 24, .none, true, 0, .call { callee := .value (.func 81), args := #[.tmp 22, .tmp 23], argTypes := #[92, 3] }⟩])
    .skip))))))
theorem t_P_strings_Builder_Grow : FnT Tryd.prog f_P_strings_Builder_Grow rc_P_strings_Builder_Grow [] 2 := ⟨⟨[], Tryd.f66, _, Tryd.func66, rfl, by kernel_rfl, by kernel_rfl, by kernel_rfl, rfl, by decide⟩, by kernel_rfl⟩
/-- (*strings.Builder).WriteString -/
abbrev f_P_strings_Builder_WriteString : FuncId := 67
def rc_P_strings_Builder_WriteString : RCode :=
  (.seq
    (.region [⟨some 4, .none, true, 3, .assign (.const (.int .i64 0))⟩,
      ⟨some 5, .none, true, 88, .assign (.const .nilIface)⟩])
  (.keep [0, 1]
  (.seq
    (.region [⟨some 6, .none, true, 92, .move (.tmp 0)⟩,
      ⟨some 7, .none, true, 0, .call { callee := .value (.func 80), args := #[.tmp 6], argTypes := #[92] }⟩])
  (.keep [0, 1]
  (.seq
    (.region [⟨some 8, .none, true, 92, .move (.tmp 0)⟩,
      ⟨some 9, .none, true, 92, .move (.tmp 0)⟩,
      ⟨some 10, .none, true, 0, .nilCheck (.tmp 9)⟩,
      ⟨some 11, .none, true, 0, .fieldAddr 95 (.tmp 10) 1⟩,
      ⟨some 12, .none, true, 93, .load 93 (.tmp 11)⟩,
      ⟨some 13, .none, true, 9, .move (.tmp 1)⟩,
      ⟨some 14, .none, true, 93, .call { callee := .builtin .append, args := #[.tmp 12, .tmp 13], argTypes := #[93, 9] }⟩,
      ⟨some 15, .none, true, 0, .nilCheck (.tmp 8)⟩,
      ⟨some 16, .none, true, 0, .fieldAddr 95 (.tmp 15) 1⟩,
      ⟨none, .none, true, 0, .store 93 (.tmp 16) (.tmp 14)⟩])
  (.keep [1]
  (.seq
    (.region [⟨some 17, .none, true, 9, .move (.tmp 1)⟩,
      ⟨some 18, .none, true, 3, .call { callee := .builtin .len, args := #[.tmp 17], argTypes := #[9] }⟩,
      ⟨some 4, .none, true, 3, .assign (.tmp 18)⟩,
      ⟨some 5, .none, true, 88, .assign (.const .nilIface)⟩])
  .ret)))))))
theorem t_P_strings_Builder_WriteString : FnT Tryd.prog f_P_strings_Builder_WriteString rc_P_strings_Builder_WriteString [.tmp 4, .tmp 5] 2 := ⟨⟨[], Tryd.f67, _, Tryd.func67, rfl, by kernel_rfl, by kernel_rfl, by kernel_rfl, rfl, by decide⟩, by kernel_rfl⟩
/-- (*strings.Builder).String -/
abbrev f_P_strings_Builder_String : FuncId := 68
def rc_P_strings_Builder_String : RCode :=
  (.seq
    (.region [⟨some 2, .none, true, 9, .assign (.const (.string { data := #[] }))⟩])
  (.keep [0]
  (.seq
    (.region [⟨some 3, .none, false, 92, .move (.tmp 0)⟩,
      ⟨some 4, .none, false, 0, .nilCheck (.tmp 3)⟩,
      ⟨some 5, .none, false, 0, .fieldAddr 95 (.tmp 4) 1⟩,
      ⟨some 6, .none, false, 93, .load 93 (.tmp 5)⟩,
      ⟨some 7, .none, false, 107, .call { callee := .builtin .unsafeSliceData, args := #[.tmp 6], argTypes := #[93] }⟩,
      ⟨some 8, .none, false, 92, .move (.tmp 0)⟩,
      ⟨some 9, .none, false, 0, .nilCheck (.tmp 8)⟩,
      ⟨some 10, .none, false, 0, .fieldAddr 95 (.tmp 9) 1⟩,
      ⟨some 11, .none, false, 93, .load 93 (.tmp 10)⟩,
      ⟨some 12, .none, false, 3, .call { callee := .builtin .len, args := #[.tmp 11], argTypes := #[93] }⟩,
      ⟨some 13, .none, true, 9, .call { callee := .builtin .unsafeString, args := #[.tmp 7, .tmp 12], argTypes := #[107, 3] }⟩,
      ⟨some 2, .none, true, 9, .assign (.tmp 13)⟩])
  .ret)))
theorem t_P_strings_Builder_String : FnT Tryd.prog f_P_strings_Builder_String rc_P_strings_Builder_String [.tmp 2] 1 := ⟨⟨[], Tryd.f68, _, Tryd.func68, rfl, by kernel_rfl, by kernel_rfl, by kernel_rfl, rfl, by decide⟩, by kernel_rfl⟩
/-- reeve/tag.Good -/
abbrev f_tag_Good : FuncId := 69
def rc_tag_Good : RCode :=
  (.seq
    (.region [⟨some 2, .none, true, 4, .assign (.const (.bool false))⟩])
  (.keep [0]
  (.seq
    (.region [⟨some 6, .none, true, 78, .move (.tmp 0)⟩,
      ⟨some 7, .none, true, 28, .call { callee := .value (.func 71), args := #[.tmp 6], argTypes := #[78] }⟩,
      ⟨some 5, .none, true, 28, .move (.tmp 7)⟩,
      ⟨some 8, .none, true, 27, .extract (.tmp 5) 0⟩,
      ⟨some 9, .none, true, 4, .extract (.tmp 5) 1⟩,
      ⟨some 3, .none, true, 27, .assign (.tmp 8)⟩,
      ⟨some 4, .none, true, 4, .assign (.tmp 9)⟩])
  (.keep [4]
  (.seq
    (.region [⟨some 10, .none, true, 4, .move (.tmp 4)⟩,
      ⟨some 2, .none, true, 4, .assign (.tmp 10)⟩])
  .ret)))))
theorem t_tag_Good : FnT Tryd.prog f_tag_Good rc_tag_Good [.tmp 2] 1 := ⟨⟨[], Tryd.f69, _, Tryd.func69, rfl, by kernel_rfl, by kernel_rfl, by kernel_rfl, rfl, by decide⟩, by kernel_rfl⟩
/-- (reeve/tag.Field).mask -/
abbrev f_tag_Field_mask : FuncId := 70
def rc_tag_Field_mask : RCode :=
  (.seq
    (.region [⟨some 1, .none, true, 0, .box 100 (.tmp 0)⟩,
      ⟨some 2, .none, true, 27, .assign (.const (.int .u64 0))⟩])
  (.keep [1]
  (.seq
    (.region [⟨some 3, .none, false, 0, .fieldAddr 100 (.tmp 1) 1⟩,
      ⟨some 4, .none, false, 3, .load 3 (.tmp 3)⟩,
      ⟨some 5, .none, false, 27, .binOp .shl 27 (.const (.int .u64 1)) (.tmp 4) 3⟩,
      ⟨some 6, .none, false, 27, .binOp .sub 27 (.tmp 5) (.const (.int .u64 1)) 27⟩,
      ⟨some 7, .none, false, 0, .fieldAddr 100 (.tmp 1) 0⟩,
      ⟨some 8, .none, false, 3, .load 3 (.tmp 7)⟩,
      ⟨some 9, .none, true, 27, .binOp .shl 27 (.tmp 6) (.tmp 8) 3⟩,
      ⟨some 2, .none, true, 27, .assign (.tmp 9)⟩])
  .ret)))
theorem t_tag_Field_mask : FnT Tryd.prog f_tag_Field_mask rc_tag_Field_mask [.tmp 2] 1 := ⟨⟨[], Tryd.f70, _, Tryd.func70, rfl, by kernel_rfl, by kernel_rfl, by kernel_rfl, rfl, by decide⟩, by kernel_rfl⟩
/-- reeve/tag.all -/
abbrev f_tag_all : FuncId := 71
def rc_tag_alll0 : RCode :=
  (.seq
    (.region [⟨some 10, .none, true, 0, .binOp .lss 3 (.tmp 9) (.tmp 8) 3⟩])
  (.keep [4, 7, 8, 9, 10]
  (.seq
    (.cond (.tmp 10)
      .skip
      (.exit 0))
  (.keep [4, 7, 8, 9]
  (.seq
    (.block 1
      (.seq
        (.region [⟨some 11, .none, true, 0, .indexAddr 78 (.tmp 7) (.tmp 9)⟩,
          ⟨some 12, .none, true, 100, .load 100 (.tmp 11)⟩,
          ⟨some 6, .none, true, 0, .alloc 100⟩,
          ⟨none, .none, true, 0, .store 100 (.tmp 6) (.tmp 12)⟩])
      (.keep [4, 6, 7, 8, 9]
      (.seq
        (.seq
          (.region [⟨some 13, .none, true, 0, .fieldAddr 100 (.tmp 6) 0⟩,
            ⟨some 14, .none, true, 3, .load 3 (.tmp 13)⟩,
            ⟨some 15, .none, true, 4, .binOp .lss 3 (.tmp 14) (.const (.int .i64 0)) 3⟩,
            ⟨some 16, .none, true, 4, .move (.tmp 15)⟩,
            ⟨some 17, .some 16 false, true, 0, .fieldAddr 100 (.tmp 6) 0⟩,
            ⟨some 18, .some 16 false, true, 3, .load 3 (.tmp 17)⟩,
            ⟨some 19, .some 16 false, true, 4, .binOp .geq 3 (.tmp 18) (.const (.int .i64 64)) 3⟩,
            ⟨some 20, .none, true, 4, .pick (.tmp 16) (.const (.bool true)) (.tmp 19)⟩,
            ⟨some 21, .none, true, 4, .move (.tmp 20)⟩,
            ⟨some 22, .some 21 false, true, 0, .fieldAddr 100 (.tmp 6) 1⟩,
            ⟨some 23, .some 21 false, true, 3, .load 3 (.tmp 22)⟩,
            ⟨some 24, .some 21 false, true, 4, .binOp .lss 3 (.tmp 23) (.const (.int .i64 1)) 3⟩,
            ⟨some 25, .none, true, 4, .pick (.tmp 21) (.const (.bool true)) (.tmp 24)⟩,
            ⟨some 26, .none, true, 4, .move (.tmp 25)⟩,
            ⟨some 27, .some 26 false, true, 0, .fieldAddr 100 (.tmp 6) 1⟩,
            ⟨some 28, .some 26 false, true, 3, .load 3 (.tmp 27)⟩,
            ⟨some 29, .some 26 false, true, 0, .fieldAddr 100 (.tmp 6) 0⟩,
            ⟨some 30, .some 26 false, true, 3, .load 3 (.tmp 29)⟩,
            ⟨some 31, .some 26 false, true, 3, .binOp .sub 3 (.const (.int .i64 64)) (.tmp 30) 3⟩,
            ⟨some 32, .some 26 false, true, 4, .binOp .gtr 3 (.tmp 28) (.tmp 31) 3⟩,
            ⟨some 33, .none, true, 4, .pick (.tmp 26) (.const (.bool true)) (.tmp 32)⟩,
            ⟨some 34, .none, true, 4, .move (.tmp 33)⟩,
            ⟨some 35, .some 34 false, true, 27, .move (.tmp 4)⟩,
            ⟨some 36, .some 34 false, true, 100, .load 100 (.tmp 6)⟩,
            ⟨some 37, .some 34 false, true, 27, .call { callee := .value (.func 70), args := #[.tmp 36], argTypes := #[100] }⟩,
            ⟨some 38, .some 34 false, true, 27, .binOp .and 27 (.tmp 35) (.tmp 37) 27⟩,
            ⟨some 39, .some 34 false, true, 4, .binOp .neq 27 (.tmp 38) (.const (.int .u64 0)) 27⟩,
            ⟨some 40, .none, true, 4, .pick (.tmp 34) (.const (.bool true)) (.tmp 39)⟩])
        (.keep [4, 6, 7, 8, 9, 40]
        (.cond (.tmp 40)
          (.seq
            (.region [⟨some 2, .none, true, 27, .assign (.const (.int .u64 0))⟩,
              ⟨some 3, .none, true, 4, .assign (.const (.bool false))⟩])
          .ret)
          .skip)))
      (.region [⟨some 41, .none, true, 27, .move (.tmp 4)⟩,
        ⟨some 42, .none, true, 100, .load 100 (.tmp 6)⟩,
        ⟨some 43, .none, true, 27, .call { callee := .value (.func 70), args := #[.tmp 42], argTypes := #[100] }⟩,
        ⟨some 44, .none, true, 27, .binOp .or 27 (.tmp 41) (.tmp 43) 27⟩,
        ⟨some 4, .none, true, 27, .assign (.tmp 44)⟩])))))
  (.keep [4, 7, 8, 9]
  (.region [⟨some 45, .none, true, 3, .binOp .add 3 (.tmp 9) (.const (.int .i64 1)) 3⟩,
    ⟨some 9, .none, true, 3, .move (.tmp 45)⟩])))))))
def rc_tag_all : RCode :=
  (.seq
    (.region [⟨some 2, .none, true, 27, .assign (.const (.int .u64 0))⟩,
      ⟨some 3, .none, true, 4, .assign (.const (.bool false))⟩])
  (.keep [0]
  (.seq
    (.region [⟨some 4, .none, true, 27, .assign (.const (.int .u64 0))⟩])
  (.keep [0, 4]
  (.seq
    (.seq
      (.region [⟨some 7, .none, true, 78, .move (.tmp 0)⟩,
        ⟨some 8, .none, true, 3, .call { callee := .builtin .len, args := #[.tmp 7], argTypes := #[78] }⟩,
        ⟨some 9, .none, true, 3, .move (.const (.int .i64 0))⟩])
    (.keep [4, 7, 8, 9]
    (.block 0
      (.loop [4, 7, 8, 9] rc_tag_alll0))))
  (.seq
    (.region [⟨some 46, .none, true, 27, .move (.tmp 4)⟩,
      ⟨some 2, .none, true, 27, .assign (.tmp 46)⟩,
      ⟨some 3, .none, true, 4, .assign (.const (.bool true))⟩])
  .ret))))))
theorem t_tag_all : FnT Tryd.prog f_tag_all rc_tag_all [.tmp 2, .tmp 3] 1 := ⟨⟨[], Tryd.f71, _, Tryd.func71, rfl, by kernel_rfl, by kernel_rfl, by kernel_rfl, rfl, by decide⟩, by kernel_rfl⟩
/-- reeve/right.of -/
abbrev f_right_of : FuncId := 72
def rc_right_of : RCode :=
  (.seq
    (.region [⟨some 2, .none, true, 3, .assign (.const (.int .i64 0))⟩])
  (.keep [0]
  (.seq
    (.seq
      (.region [⟨some 3, .none, true, 3, .move (.tmp 0)⟩,
        ⟨some 4, .none, true, 4, .call { callee := .value (.func 52), args := #[.tmp 3], argTypes := #[3] }⟩,
        ⟨some 5, .none, true, 4, .unOp .not 4 (.tmp 4)⟩])
    (.keep [0, 5]
    (.cond (.tmp 5)
      (.seq
        (.region [⟨some 2, .none, true, 3, .assign (.const (.int .i64 0))⟩])
      .ret)
      .skip)))
  (.seq
    (.region [⟨some 6, .none, true, 3, .move (.tmp 0)⟩,
      ⟨some 2, .none, true, 3, .assign (.tmp 6)⟩])
  .ret))))
theorem t_right_of : FnT Tryd.prog f_right_of rc_right_of [.tmp 2] 1 := ⟨⟨[], Tryd.f72, _, Tryd.func72, rfl, by kernel_rfl, by kernel_rfl, by kernel_rfl, rfl, by decide⟩, by kernel_rfl⟩
/-- reeve/right.Less -/
abbrev f_right_Less : FuncId := 73
def rc_right_Less : RCode :=
  (.seq
    (.region [⟨some 4, .none, true, 3, .assign (.const (.int .i64 0))⟩])
  (.keep [0, 1]
  (.seq
    (.region [⟨some 5, .none, true, 3, .move (.tmp 0)⟩,
      ⟨some 6, .none, true, 3, .call { callee := .value (.func 72), args := #[.tmp 5], argTypes := #[3] }⟩,
      ⟨some 7, .none, true, 3, .move (.tmp 1)⟩,
      ⟨some 8, .none, true, 3, .call { callee := .value (.func 72), args := #[.tmp 7], argTypes := #[3] }⟩,
      ⟨some 9, .none, true, 3, .binOp .andNot 3 (.tmp 6) (.tmp 8) 3⟩,
      ⟨some 4, .none, true, 3, .assign (.tmp 9)⟩])
  .ret)))
theorem t_right_Less : FnT Tryd.prog f_right_Less rc_right_Less [.tmp 4] 2 := ⟨⟨[], Tryd.f73, _, Tryd.func73, rfl, by kernel_rfl, by kernel_rfl, by kernel_rfl, rfl, by decide⟩, by kernel_rfl⟩
/-- internal/strconv.FormatInt -/
abbrev f_internal_strconv_FormatInt : FuncId := 79
def rc_internal_strconv_FormatInt : RCode :=
  (.seq
    (.region [⟨some 4, .none, true, 9, .assign (.const (.string { data := #[] }))⟩])
  (.keep [0, 1]
  (.seq
    (.seq
      (.region [⟨some 10, .none, true, 3, .move (.tmp 1)⟩,
        ⟨some 11, .none, true, 4, .binOp .eql 3 (.tmp 10) (.const (.int .i64 10)) 3⟩])
    (.keep [0, 1, 11]
    (.cond (.tmp 11)
      (.seq
        (.seq
          (.region [⟨some 12, .none, true, 2, .move (.tmp 0)⟩,
            ⟨some 13, .none, true, 4, .binOp .leq 2 (.const (.int .i64 0)) (.tmp 12) 2⟩,
            ⟨some 14, .none, true, 4, .move (.tmp 13)⟩,
            ⟨some 15, .some 14 true, true, 2, .move (.tmp 0)⟩,
            ⟨some 16, .some 14 true, true, 4, .binOp .lss 2 (.tmp 15) (.const (.int .i64 100)) 2⟩,
            ⟨some 17, .none, true, 4, .pick (.tmp 14) (.tmp 16) (.const (.bool false))⟩])
        (.keep [0, 17]
        (.cond (.tmp 17)
          (.seq
            (.region [⟨some 18, .none, true, 2, .move (.tmp 0)⟩,
              ⟨some 19, .none, true, 9, .call { callee := .value (.func 90), args := #[.tmp 18], argTypes := #[3] }⟩,
              ⟨some 4, .none, true, 9, .assign (.tmp 19)⟩])
          .ret)
          .skip)))
      (.seq
        (.region [⟨some 5, .none, true, 0, .alloc 116⟩])
      (.keep [0, 5]
      (.seq
        (.region [⟨some 20, .none, true, 2, .move (.tmp 0)⟩,
          ⟨some 21, .none, true, 27, .convert 2 27 (.tmp 20)⟩,
          ⟨some 6, .none, true, 27, .assign (.tmp 21)⟩])
      (.keep [0, 5, 6]
      (.seq
        (.seq
          (.region [⟨some 22, .none, true, 2, .move (.tmp 0)⟩,
            ⟨some 23, .none, true, 4, .binOp .lss 2 (.tmp 22) (.const (.int .i64 0)) 2⟩])
        (.keep [0, 5, 6, 23]
        (.cond (.tmp 23)
          (.region [⟨some 24, .none, true, 27, .move (.tmp 6)⟩,
            ⟨some 25, .none, true, 27, .unOp .neg 27 (.tmp 24)⟩,
            ⟨some 6, .none, true, 27, .assign (.tmp 25)⟩])
          .skip)))
      (.seq
        (.region [⟨some 26, .none, true, 27, .move (.tmp 6)⟩,
          ⟨some 27, .none, true, 3, .call { callee := .value (.func 91), args := #[.tmp 26], argTypes := #[27] }⟩,
          ⟨some 7, .none, true, 3, .assign (.tmp 27)⟩])
      (.keep [0, 5, 6, 7]
      (.seq
        (.region [⟨some 28, .none, true, 3, .move (.tmp 7)⟩,
          ⟨some 29, .none, true, 3, .binOp .add 3 (.const (.int .i64 1)) (.tmp 28) 3⟩,
          ⟨some 30, .none, true, 93, .slice 116 (.tmp 5) (some (.const (.int .i64 1))) (some (.tmp 29)) none⟩,
          ⟨some 31, .none, true, 27, .move (.tmp 6)⟩,
          ⟨some 32, .none, true, 0, .call { callee := .value (.func 92), args := #[.tmp 30, .tmp 31], argTypes := #[93, 27] }⟩])
      (.keep [0, 5, 7]
      (.seq
        (.seq
          (.region [⟨some 33, .none, true, 2, .move (.tmp 0)⟩,
            ⟨some 34, .none, true, 4, .binOp .lss 2 (.tmp 33) (.const (.int .i64 0)) 2⟩])
        (.keep [5, 7, 34]
        (.cond (.tmp 34)
          (.seq
            (.region [⟨some 35, .none, true, 0, .indexAddr 116 (.tmp 5) (.const (.int .i64 0))⟩,
              ⟨none, .none, true, 0, .store 5 (.tmp 35) (.const (.int .u8 45))⟩])
          (.keep [5, 7]
          (.seq
            (.region [⟨some 36, .none, true, 3, .move (.tmp 7)⟩,
              ⟨some 37, .none, true, 3, .binOp .add 3 (.const (.int .i64 1)) (.tmp 36) 3⟩,
              ⟨some 38, .none, true, 93, .slice 116 (.tmp 5) none (some (.tmp 37)) none⟩,
              ⟨some 39, .none, true, 9, .convert 93 9 (.tmp 38)⟩,
              ⟨some 4, .none, true, 9, .assign (.tmp 39)⟩])
          .ret)))
          .skip)))
      (.seq
        (.region [⟨some 40, .none, true, 3, .move (.tmp 7)⟩,
          ⟨some 41, .none, true, 3, .binOp .add 3 (.const (.int .i64 1)) (.tmp 40) 3⟩,
          ⟨some 42, .none, true, 93, .slice 116 (.tmp 5) (some (.const (.int .i64 1))) (some (.tmp 41)) none⟩,
          ⟨some 43, .none, true, 9, .convert 93 9 (.tmp 42)⟩,
          ⟨some 4, .none, true, 9, .assign (.tmp 43)⟩])
      .ret))))))))))))
      .skip)))
  (.seq
    (.region [⟨some 45, .none, true, 2, .move (.tmp 0)⟩,
      ⟨some 46, .none, true, 27, .convert 2 27 (.tmp 45)⟩,
      ⟨some 47, .none, true, 3, .move (.tmp 1)⟩,
      ⟨some 48, .none, true, 2, .move (.tmp 0)⟩,
      ⟨some 49, .none, true, 4, .binOp .lss 2 (.tmp 48) (.const (.int .i64 0)) 2⟩,
      ⟨some 50, .none, true, 119, .call { callee := .value (.func 93), args := #[.const (.slice none 0 0), .tmp 46, .tmp 47, .tmp 49, .const (.bool false)], argTypes := #[93, 27, 3, 4, 4] }⟩,
      ⟨some 44, .none, true, 119, .move (.tmp 50)⟩,
      ⟨some 51, .none, true, 93, .extract (.tmp 44) 0⟩,
      ⟨some 52, .none, true, 9, .extract (.tmp 44) 1⟩,
      ⟨some 8, .none, true, 93, .assign (.tmp 51)⟩,
      ⟨some 9, .none, true, 9, .assign (.tmp 52)⟩])
  (.keep [9]
  (.seq
    (.region [⟨some 53, .none, true, 9, .move (.tmp 9)⟩,
      ⟨some 4, .none, true, 9, .assign (.tmp 53)⟩])
  .ret))))))
theorem t_internal_strconv_FormatInt : FnT Tryd.prog f_internal_strconv_FormatInt rc_internal_strconv_FormatInt [.tmp 4] 2 := ⟨⟨[], Tryd.f79, _, Tryd.func79, rfl, by kernel_rfl, by kernel_rfl, by kernel_rfl, rfl, by decide⟩, by kernel_rfl⟩
/-- (*strings.Builder).grow -/
abbrev f_P_strings_Builder_grow : FuncId := 81
def rc_P_strings_Builder_grow : RCode :=
  (.seq
    (.regionD [⟨some 5, .none, 92, .move (.tmp 0), 0, []⟩,
      ⟨some 6, .none, 0, .nilCheck (.tmp 5), 1, []⟩,
      ⟨some 7, .none, 0, .fieldAddr 95 (.tmp 6) 1, 2, []⟩,
      ⟨some 8, .none, 93, .load 93 (.tmp 7), 3, []⟩,
      ⟨some 9, .none, 3, .call { callee := .builtin .cap, args := #[.tmp 8], argTypes := #[93] }, 4, []⟩,
      ⟨some 10, .none, 3, .binOp .mul 3 (.const (.int .i64 2)) (.tmp 9) 3, 5, []⟩,
      ⟨some 11, .none, 3, .move (.tmp 1), 6, []⟩,
      ⟨some 12, .none, 3, .binOp .add 3 (.tmp 10) (.tmp 11) 3, 7, []⟩,
      ⟨some 13, .none, 93, .call { callee := .value (.func 95), args := #[.tmp 12], argTypes := #[3] }, 8, []⟩,
      ⟨some 14, .none, 92, .move (.tmp 0), 9, []⟩,
      ⟨some 15, .none, 0, .nilCheck (.tmp 14), 10, []⟩,
      ⟨some 16, .none, 0, .fieldAddr 95 (.tmp 15) 1, 11, []⟩,
      ⟨some 17, .none, 93, .load 93 (.tmp 16), 12, [4, 8]⟩,
      ⟨some 18, .none, 3, .call { callee := .builtin .len, args := #[.tmp 17], argTypes := #[93] }, 13, []⟩,
      ⟨some 19, .none, 93, .slice 93 (.tmp 13) none (some (.tmp 18)) none, 14, []⟩,
      ⟨some 4, .none, 93, .assign (.tmp 19), 15, []⟩])
  (.keep [0, 4]
  (.seq
    (.region [⟨some 20, .none, true, 93, .move (.tmp 4)⟩,
      ⟨some 21, .none, true, 92, .move (.tmp 0)⟩,
      ⟨some 22, .none, true, 0, .nilCheck (.tmp 21)⟩,
      ⟨some 23, .none, true, 0, .fieldAddr 95 (.tmp 22) 1⟩,
      ⟨some 24, .none, true, 93, .load 93 (.tmp 23)⟩,
      ⟨some 25, .none, true, 3, .call { callee := .builtin .copy, args := #[.tmp 20, .tmp 24], argTypes := #[93, 93] }⟩])
  (.keep [0, 4]
  (.region [⟨some 26, .none, true, 92, .move (.tmp 0)⟩,
    ⟨some 27, .none, true, 93, .move (.tmp 4)⟩,
    ⟨some 28, .none, true, 0, .nilCheck (.tmp 26)⟩,
    ⟨some 29, .none, true, 0, .fieldAddr 95 (.tmp 28) 1⟩,
    ⟨none, .none, true, 0, .store 93 (.tmp 29) (.tmp 27)⟩])))))
theorem t_P_strings_Builder_grow : FnT Tryd.prog f_P_strings_Builder_grow rc_P_strings_Builder_grow [] 2 := ⟨⟨[0], Tryd.f81, _, Tryd.func81, rfl, by kernel_rfl, by kernel_rfl, by kernel_rfl, rfl, by decide⟩, by kernel_rfl⟩
/-- internal/strconv.small -/
abbrev f_internal_strconv_small : FuncId := 90
def rc_internal_strconv_small : RCode :=
  (.seq
    (.region [⟨some 2, .none, true, 9, .assign (.const (.string { data := #[] }))⟩])
  (.keep [0]
  (.seq
    (.seq
      (.region [⟨some 3, .none, true, 3, .move (.tmp 0)⟩,
        ⟨some 4, .none, true, 4, .binOp .lss 3 (.tmp 3) (.const (.int .i64 10)) 3⟩])
    (.keep [0, 4]
    (.cond (.tmp 4)
      (.seq
        (.region [⟨some 5, .none, true, 3, .move (.tmp 0)⟩,
          ⟨some 6, .none, true, 3, .move (.tmp 0)⟩,
          ⟨some 7, .none, true, 3, .binOp .add 3 (.tmp 6) (.const (.int .i64 1)) 3⟩,
          ⟨some 8, .none, true, 9, .slice 9 (.const (.string { data := #[48, 49, 50, 51, 52, 53, 54, 55, 56, 57, 97, 98, 99, 100, 101, 102, 103, 104, 105, 106, 107, 108, 109, 110, 111, 112, 113, 114, 115, 116, 117, 118, 119, 120, 121, 122] })) (some (.tmp 5)) (some (.tmp 7)) none⟩,
          ⟨some 2, .none, true, 9, .assign (.tmp 8)⟩])
      .ret)
      .skip)))
  (.seq
    (.region [⟨some 9, .none, true, 3, .move (.tmp 0)⟩,
      ⟨some 10, .none, true, 3, .binOp .mul 3 (.tmp 9) (.const (.int .i64 2)) 3⟩,
      ⟨some 11, .none, true, 3, .move (.tmp 0)⟩,
      ⟨some 12, .none, true, 3, .binOp .mul 3 (.tmp 11) (.const (.int .i64 2)) 3⟩,
      ⟨some 13, .none, true, 3, .binOp .add 3 (.tmp 12) (.const (.int .i64 2)) 3⟩,
      ⟨some 14, .none, true, 9, .slice 9 (.const (.string { data := #[48, 48, 48, 49, 48, 50, 48, 51, 48, 52, 48, 53, 48, 54, 48, 55, 48, 56, 48, 57, 49, 48, 49, 49, 49, 50, 49, 51, 49, 52, 49, 53, 49, 54, 49, 55, 49, 56, 49, 57, 50, 48, 50, 49, 50, 50, 50, 51, 50, 52, 50, 53, 50, 54, 50, 55, 50, 56, 50, 57, 51, 48, 51, 49, 51, 50, 51, 51, 51, 52, 51, 53, 51, 54, 51, 55, 51, 56, 51, 57, 52, 48, 52, 49, 52, 50, 52, 51, 52, 52, 52, 53, 52, 54, 52, 55, 52, 56, 52, 57, 53, 48, 53, 49, 53, 50, 53, 51, 53, 52, 53, 53, 53, 54, 53, 55, 53, 56, 53, 57, 54, 48, 54, 49, 54, 50, 54, 51, 54, 52, 54, 53, 54, 54, 54, 55, 54, 56, 54, 57, 55, 48, 55, 49, 55, 50, 55, 51, 55, 52, 55, 53, 55, 54, 55, 55, 55, 56, 55, 57, 56, 48, 56, 49, 56, 50, 56, 51, 56, 52, 56, 53, 56, 54, 56, 55, 56, 56, 56, 57, 57, 48, 57, 49, 57, 50, 57, 51, 57, 52, 57, 53, 57, 54, 57, 55, 57, 56, 57, 57] })) (some (.tmp 10)) (some (.tmp 13)) none⟩,
      ⟨some 2, .none, true, 9, .assign (.tmp 14)⟩])
  .ret))))
theorem t_internal_strconv_small : FnT Tryd.prog f_internal_strconv_small rc_internal_strconv_small [.tmp 2] 1 := ⟨⟨[], Tryd.f90, _, Tryd.func90, rfl, by kernel_rfl, by kernel_rfl, by kernel_rfl, rfl, by decide⟩, by kernel_rfl⟩
/-- internal/strconv.numDigits -/
abbrev f_internal_strconv_numDigits : FuncId := 91
def rc_internal_strconv_numDigits : RCode :=
  (.seq
    (.region [⟨some 2, .none, true, 3, .assign (.const (.int .i64 0))⟩])
  (.keep [0]
  (.seq
    (.region [⟨some 4, .none, true, 27, .move (.tmp 0)⟩,
      ⟨some 5, .none, true, 3, .call { callee := .value (.func 104), args := #[.tmp 4], argTypes := #[27] }⟩,
      ⟨some 6, .none, true, 3, .call { callee := .value (.func 103), args := #[.tmp 5], argTypes := #[3] }⟩,
      ⟨some 3, .none, true, 3, .assign (.tmp 6)⟩])
  (.keep [0, 3]
  (.seq
    (.region [⟨some 7, .none, true, 3, .move (.tmp 3)⟩,
      ⟨some 8, .none, true, 27, .move (.tmp 0)⟩,
      ⟨some 9, .none, true, 3, .move (.tmp 3)⟩,
      ⟨some 10, .none, true, 0, .indexAddr 135 (.global 2) (.tmp 9)⟩,
      ⟨some 11, .none, true, 27, .load 27 (.tmp 10)⟩,
      ⟨some 12, .none, true, 4, .binOp .geq 27 (.tmp 8) (.tmp 11) 27⟩,
      ⟨some 13, .none, true, 3, .call { callee := .value (.func 105), args := #[.tmp 12], argTypes := #[4] }⟩,
      ⟨some 14, .none, true, 3, .binOp .add 3 (.tmp 7) (.tmp 13) 3⟩,
      ⟨some 2, .none, true, 3, .assign (.tmp 14)⟩])
  .ret)))))
theorem t_internal_strconv_numDigits : FnT Tryd.prog f_internal_strconv_numDigits rc_internal_strconv_numDigits [.tmp 2] 1 := ⟨⟨[], Tryd.f91, _, Tryd.func91, rfl, by kernel_rfl, by kernel_rfl, by kernel_rfl, rfl, by decide⟩, by kernel_rfl⟩
/-- internal/strconv.formatBase10 -/
abbrev f_internal_strconv_formatBase10 : FuncId := 92
def rc_internal_strconv_formatBase10l0 : RCode :=
  (.seq
    (.seq
      (.region [⟨some 19, .none, true, 3, .move (.tmp 4)⟩,
        ⟨some 20, .none, true, 4, .binOp .geq 3 (.tmp 19) (.const (.int .i64 8)) 3⟩])
    (.keep [0, 1, 4, 20]
    (.cond (.tmp 20)
      .skip
      (.exit 0))))
  (.block 1
    (.seq
      (.region [⟨some 21, .none, true, 27, .move (.tmp 1)⟩,
        ⟨some 22, .none, true, 27, .binOp .rem 27 (.tmp 21) (.const (.int .u64 100000000)) 27⟩,
        ⟨some 23, .none, true, 136, .convert 27 136 (.tmp 22)⟩,
        ⟨some 5, .none, true, 136, .assign (.tmp 23)⟩])
    (.keep [0, 1, 4, 5]
    (.seq
      (.region [⟨some 24, .none, true, 27, .move (.tmp 1)⟩,
        ⟨some 25, .none, true, 27, .binOp .quo 27 (.tmp 24) (.const (.int .u64 100000000)) 27⟩,
        ⟨some 1, .none, true, 27, .assign (.tmp 25)⟩])
    (.keep [0, 1, 4, 5]
    (.seq
      (.region [⟨some 26, .none, true, 136, .move (.tmp 5)⟩,
        ⟨some 27, .none, true, 136, .binOp .quo 136 (.tmp 26) (.const (.int .u32 10000)) 136⟩,
        ⟨some 28, .none, true, 136, .move (.tmp 5)⟩,
        ⟨some 29, .none, true, 136, .binOp .rem 136 (.tmp 28) (.const (.int .u32 10000)) 136⟩,
        ⟨some 6, .none, true, 136, .assign (.tmp 27)⟩,
        ⟨some 7, .none, true, 136, .assign (.tmp 29)⟩])
    (.keep [0, 1, 4, 6, 7]
    (.seq
      (.region [⟨some 30, .none, true, 136, .move (.tmp 7)⟩,
        ⟨some 31, .none, true, 136, .binOp .quo 136 (.tmp 30) (.const (.int .u32 100)) 136⟩,
        ⟨some 32, .none, true, 136, .binOp .mul 136 (.tmp 31) (.const (.int .u32 2)) 136⟩,
        ⟨some 33, .none, true, 136, .move (.tmp 7)⟩,
        ⟨some 34, .none, true, 136, .binOp .rem 136 (.tmp 33) (.const (.int .u32 100)) 136⟩,
        ⟨some 35, .none, true, 136, .binOp .mul 136 (.tmp 34) (.const (.int .u32 2)) 136⟩,
        ⟨some 8, .none, true, 136, .assign (.tmp 32)⟩,
        ⟨some 9, .none, true, 136, .assign (.tmp 35)⟩])
    (.keep [0, 1, 4, 6, 8, 9]
    (.seq
      (.region [⟨some 36, .none, true, 136, .move (.tmp 6)⟩,
        ⟨some 37, .none, true, 136, .binOp .quo 136 (.tmp 36) (.const (.int .u32 100)) 136⟩,
        ⟨some 38, .none, true, 136, .binOp .mul 136 (.tmp 37) (.const (.int .u32 2)) 136⟩,
        ⟨some 39, .none, true, 136, .move (.tmp 6)⟩,
        ⟨some 40, .none, true, 136, .binOp .rem 136 (.tmp 39) (.const (.int .u32 100)) 136⟩,
        ⟨some 41, .none, true, 136, .binOp .mul 136 (.tmp 40) (.const (.int .u32 2)) 136⟩,
        ⟨some 10, .none, true, 136, .assign (.tmp 38)⟩,
        ⟨some 11, .none, true, 136, .assign (.tmp 41)⟩])
    (.keep [0, 1, 4, 8, 9, 10, 11]
    (.seq
      (.region [⟨some 42, .none, true, 93, .move (.tmp 0)⟩,
        ⟨some 43, .none, true, 3, .move (.tmp 4)⟩,
        ⟨some 44, .none, true, 3, .binOp .sub 3 (.tmp 43) (.const (.int .i64 1)) 3⟩,
        ⟨some 45, .none, false, 93, .move (.tmp 0)⟩,
        ⟨some 46, .none, false, 3, .move (.tmp 4)⟩,
        ⟨some 47, .none, false, 3, .binOp .sub 3 (.tmp 46) (.const (.int .i64 2)) 3⟩,
        ⟨some 48, .none, true, 136, .move (.tmp 9)⟩,
        ⟨some 49, .none, true, 136, .binOp .add 136 (.tmp 48) (.const (.int .u32 1)) 136⟩,
        ⟨some 50, .none, true, 5, .index 9 (.const (.string { data := #[48, 48, 48, 49, 48, 50, 48, 51, 48, 52, 48, 53, 48, 54, 48, 55, 48, 56, 48, 57, 49, 48, 49, 49, 49, 50, 49, 51, 49, 52, 49, 53, 49, 54, 49, 55, 49, 56, 49, 57, 50, 48, 50, 49, 50, 50, 50, 51, 50, 52, 50, 53, 50, 54, 50, 55, 50, 56, 50, 57, 51, 48, 51, 49, 51, 50, 51, 51, 51, 52, 51, 53, 51, 54, 51, 55, 51, 56, 51, 57, 52, 48, 52, 49, 52, 50, 52, 51, 52, 52, 52, 53, 52, 54, 52, 55, 52, 56, 52, 57, 53, 48, 53, 49, 53, 50, 53, 51, 53, 52, 53, 53, 53, 54, 53, 55, 53, 56, 53, 57, 54, 48, 54, 49, 54, 50, 54, 51, 54, 52, 54, 53, 54, 54, 54, 55, 54, 56, 54, 57, 55, 48, 55, 49, 55, 50, 55, 51, 55, 52, 55, 53, 55, 54, 55, 55, 55, 56, 55, 57, 56, 48, 56, 49, 56, 50, 56, 51, 56, 52, 56, 53, 56, 54, 56, 55, 56, 56, 56, 57, 57, 48, 57, 49, 57, 50, 57, 51, 57, 52, 57, 53, 57, 54, 57, 55, 57, 56, 57, 57] })) (.tmp 49)⟩,
        ⟨some 51, .none, false, 136, .move (.tmp 9)⟩,
        ⟨some 52, .none, false, 5, .index 9 (.const (.string { data := #[48, 48, 48, 49, 48, 50, 48, 51, 48, 52, 48, 53, 48, 54, 48, 55, 48, 56, 48, 57, 49, 48, 49, 49, 49, 50, 49, 51, 49, 52, 49, 53, 49, 54, 49, 55, 49, 56, 49, 57, 50, 48, 50, 49, 50, 50, 50, 51, 50, 52, 50, 53, 50, 54, 50, 55, 50, 56, 50, 57, 51, 48, 51, 49, 51, 50, 51, 51, 51, 52, 51, 53, 51, 54, 51, 55, 51, 56, 51, 57, 52, 48, 52, 49, 52, 50, 52, 51, 52, 52, 52, 53, 52, 54, 52, 55, 52, 56, 52, 57, 53, 48, 53, 49, 53, 50, 53, 51, 53, 52, 53, 53, 53, 54, 53, 55, 53, 56, 53, 57, 54, 48, 54, 49, 54, 50, 54, 51, 54, 52, 54, 53, 54, 54, 54, 55, 54, 56, 54, 57, 55, 48, 55, 49, 55, 50, 55, 51, 55, 52, 55, 53, 55, 54, 55, 55, 55, 56, 55, 57, 56, 48, 56, 49, 56, 50, 56, 51, 56, 52, 56, 53, 56, 54, 56, 55, 56, 56, 56, 57, 57, 48, 57, 49, 57, 50, 57, 51, 57, 52, 57, 53, 57, 54, 57, 55, 57, 56, 57, 57] })) (.tmp 51)⟩,
        ⟨some 53, .none, true, 0, .indexAddr 93 (.tmp 42) (.tmp 44)⟩,
        ⟨none, .none, true, 0, .store 5 (.tmp 53) (.tmp 50)⟩,
        ⟨some 54, .none, true, 0, .indexAddr 93 (.tmp 45) (.tmp 47)⟩,
        ⟨none, .none, true, 0, .store 5 (.tmp 54) (.tmp 52)⟩])
    (.keep [0, 1, 4, 8, 10, 11]
    (.seq
      (.region [⟨some 55, .none, true, 93, .move (.tmp 0)⟩,
        ⟨some 56, .none, true, 3, .move (.tmp 4)⟩,
        ⟨some 57, .none, true, 3, .binOp .sub 3 (.tmp 56) (.const (.int .i64 3)) 3⟩,
        ⟨some 58, .none, false, 93, .move (.tmp 0)⟩,
        ⟨some 59, .none, false, 3, .move (.tmp 4)⟩,
        ⟨some 60, .none, false, 3, .binOp .sub 3 (.tmp 59) (.const (.int .i64 4)) 3⟩,
        ⟨some 61, .none, true, 136, .move (.tmp 8)⟩,
        ⟨some 62, .none, true, 136, .binOp .add 136 (.tmp 61) (.const (.int .u32 1)) 136⟩,
        ⟨some 63, .none, true, 5, .index 9 (.const (.string { data := #[48, 48, 48, 49, 48, 50, 48, 51, 48, 52, 48, 53, 48, 54, 48, 55, 48, 56, 48, 57, 49, 48, 49, 49, 49, 50, 49, 51, 49, 52, 49, 53, 49, 54, 49, 55, 49, 56, 49, 57, 50, 48, 50, 49, 50, 50, 50, 51, 50, 52, 50, 53, 50, 54, 50, 55, 50, 56, 50, 57, 51, 48, 51, 49, 51, 50, 51, 51, 51, 52, 51, 53, 51, 54, 51, 55, 51, 56, 51, 57, 52, 48, 52, 49, 52, 50, 52, 51, 52, 52, 52, 53, 52, 54, 52, 55, 52, 56, 52, 57, 53, 48, 53, 49, 53, 50, 53, 51, 53, 52, 53, 53, 53, 54, 53, 55, 53, 56, 53, 57, 54, 48, 54, 49, 54, 50, 54, 51, 54, 52, 54, 53, 54, 54, 54, 55, 54, 56, 54, 57, 55, 48, 55, 49, 55, 50, 55, 51, 55, 52, 55, 53, 55, 54, 55, 55, 55, 56, 55, 57, 56, 48, 56, 49, 56, 50, 56, 51, 56, 52, 56, 53, 56, 54, 56, 55, 56, 56, 56, 57, 57, 48, 57, 49, 57, 50, 57, 51, 57, 52, 57, 53, 57, 54, 57, 55, 57, 56, 57, 57] })) (.tmp 62)⟩,
        ⟨some 64, .none, false, 136, .move (.tmp 8)⟩,
        ⟨some 65, .none, false, 5, .index 9 (.const (.string { data := #[48, 48, 48, 49, 48, 50, 48, 51, 48, 52, 48, 53, 48, 54, 48, 55, 48, 56, 48, 57, 49, 48, 49, 49, 49, 50, 49, 51, 49, 52, 49, 53, 49, 54, 49, 55, 49, 56, 49, 57, 50, 48, 50, 49, 50, 50, 50, 51, 50, 52, 50, 53, 50, 54, 50, 55, 50, 56, 50, 57, 51, 48, 51, 49, 51, 50, 51, 51, 51, 52, 51, 53, 51, 54, 51, 55, 51, 56, 51, 57, 52, 48, 52, 49, 52, 50, 52, 51, 52, 52, 52, 53, 52, 54, 52, 55, 52, 56, 52, 57, 53, 48, 53, 49, 53, 50, 53, 51, 53, 52, 53, 53, 53, 54, 53, 55, 53, 56, 53, 57, 54, 48, 54, 49, 54, 50, 54, 51, 54, 52, 54, 53, 54, 54, 54, 55, 54, 56, 54, 57, 55, 48, 55, 49, 55, 50, 55, 51, 55, 52, 55, 53, 55, 54, 55, 55, 55, 56, 55, 57, 56, 48, 56, 49, 56, 50, 56, 51, 56, 52, 56, 53, 56, 54, 56, 55, 56, 56, 56, 57, 57, 48, 57, 49, 57, 50, 57, 51, 57, 52, 57, 53, 57, 54, 57, 55, 57, 56, 57, 57] })) (.tmp 64)⟩,
        ⟨some 66, .none, true, 0, .indexAddr 93 (.tmp 55) (.tmp 57)⟩,
        ⟨none, .none, true, 0, .store 5 (.tmp 66) (.tmp 63)⟩,
        ⟨some 67, .none, true, 0, .indexAddr 93 (.tmp 58) (.tmp 60)⟩,
        ⟨none, .none, true, 0, .store 5 (.tmp 67) (.tmp 65)⟩])
    (.keep [0, 1, 4, 10, 11]
    (.seq
      (.region [⟨some 68, .none, true, 93, .move (.tmp 0)⟩,
        ⟨some 69, .none, true, 3, .move (.tmp 4)⟩,
        ⟨some 70, .none, true, 3, .binOp .sub 3 (.tmp 69) (.const (.int .i64 5)) 3⟩,
        ⟨some 71, .none, false, 93, .move (.tmp 0)⟩,
        ⟨some 72, .none, false, 3, .move (.tmp 4)⟩,
        ⟨some 73, .none, false, 3, .binOp .sub 3 (.tmp 72) (.const (.int .i64 6)) 3⟩,
        ⟨some 74, .none, true, 136, .move (.tmp 11)⟩,
        ⟨some 75, .none, true, 136, .binOp .add 136 (.tmp 74) (.const (.int .u32 1)) 136⟩,
        ⟨some 76, .none, true, 5, .index 9 (.const (.string { data := #[48, 48, 48, 49, 48, 50, 48, 51, 48, 52, 48, 53, 48, 54, 48, 55, 48, 56, 48, 57, 49, 48, 49, 49, 49, 50, 49, 51, 49, 52, 49, 53, 49, 54, 49, 55, 49, 56, 49, 57, 50, 48, 50, 49, 50, 50, 50, 51, 50, 52, 50, 53, 50, 54, 50, 55, 50, 56, 50, 57, 51, 48, 51, 49, 51, 50, 51, 51, 51, 52, 51, 53, 51, 54, 51, 55, 51, 56, 51, 57, 52, 48, 52, 49, 52, 50, 52, 51, 52, 52, 52, 53, 52, 54, 52, 55, 52, 56, 52, 57, 53, 48, 53, 49, 53, 50, 53, 51, 53, 52, 53, 53, 53, 54, 53, 55, 53, 56, 53, 57, 54, 48, 54, 49, 54, 50, 54, 51, 54, 52, 54, 53, 54, 54, 54, 55, 54, 56, 54, 57, 55, 48, 55, 49, 55, 50, 55, 51, 55, 52, 55, 53, 55, 54, 55, 55, 55, 56, 55, 57, 56, 48, 56, 49, 56, 50, 56, 51, 56, 52, 56, 53, 56, 54, 56, 55, 56, 56, 56, 57, 57, 48, 57, 49, 57, 50, 57, 51, 57, 52, 57, 53, 57, 54, 57, 55, 57, 56, 57, 57] })) (.tmp 75)⟩,
        ⟨some 77, .none, false, 136, .move (.tmp 11)⟩,
        ⟨some 78, .none, false, 5, .index 9 (.const (.string { data := #[48, 48, 48, 49, 48, 50, 48, 51, 48, 52, 48, 53, 48, 54, 48, 55, 48, 56, 48, 57, 49, 48, 49, 49, 49, 50, 49, 51, 49, 52, 49, 53, 49, 54, 49, 55, 49, 56, 49, 57, 50, 48, 50, 49, 50, 50, 50, 51, 50, 52, 50, 53, 50, 54, 50, 55, 50, 56, 50, 57, 51, 48, 51, 49, 51, 50, 51, 51, 51, 52, 51, 53, 51, 54, 51, 55, 51, 56, 51, 57, 52, 48, 52, 49, 52, 50, 52, 51, 52, 52, 52, 53, 52, 54, 52, 55, 52, 56, 52, 57, 53, 48, 53, 49, 53, 50, 53, 51, 53, 52, 53, 53, 53, 54, 53, 55, 53, 56, 53, 57, 54, 48, 54, 49, 54, 50, 54, 51, 54, 52, 54, 53, 54, 54, 54, 55, 54, 56, 54, 57, 55, 48, 55, 49, 55, 50, 55, 51, 55, 52, 55, 53, 55, 54, 55, 55, 55, 56, 55, 57, 56, 48, 56, 49, 56, 50, 56, 51, 56, 52, 56, 53, 56, 54, 56, 55, 56, 56, 56, 57, 57, 48, 57, 49, 57, 50, 57, 51, 57, 52, 57, 53, 57, 54, 57, 55, 57, 56, 57, 57] })) (.tmp 77)⟩,
        ⟨some 79, .none, true, 0, .indexAddr 93 (.tmp 68) (.tmp 70)⟩,
        ⟨none, .none, true, 0, .store 5 (.tmp 79) (.tmp 76)⟩,
        ⟨some 80, .none, true, 0, .indexAddr 93 (.tmp 71) (.tmp 73)⟩,
        ⟨none, .none, true, 0, .store 5 (.tmp 80) (.tmp 78)⟩])
    (.keep [0, 1, 4, 10]
    (.seq
      (.region [⟨some 81, .none, true, 93, .move (.tmp 0)⟩,
        ⟨some 82, .none, true, 3, .move (.tmp 4)⟩,
        ⟨some 83, .none, true, 3, .binOp .sub 3 (.tmp 82) (.const (.int .i64 7)) 3⟩,
        ⟨some 84, .none, false, 93, .move (.tmp 0)⟩,
        ⟨some 85, .none, false, 3, .move (.tmp 4)⟩,
        ⟨some 86, .none, false, 3, .binOp .sub 3 (.tmp 85) (.const (.int .i64 8)) 3⟩,
        ⟨some 87, .none, true, 136, .move (.tmp 10)⟩,
        ⟨some 88, .none, true, 136, .binOp .add 136 (.tmp 87) (.const (.int .u32 1)) 136⟩,
        ⟨some 89, .none, true, 5, .index 9 (.const (.string { data := #[48, 48, 48, 49, 48, 50, 48, 51, 48, 52, 48, 53, 48, 54, 48, 55, 48, 56, 48, 57, 49, 48, 49, 49, 49, 50, 49, 51, 49, 52, 49, 53, 49, 54, 49, 55, 49, 56, 49, 57, 50, 48, 50, 49, 50, 50, 50, 51, 50, 52, 50, 53, 50, 54, 50, 55, 50, 56, 50, 57, 51, 48, 51, 49, 51, 50, 51, 51, 51, 52, 51, 53, 51, 54, 51, 55, 51, 56, 51, 57, 52, 48, 52, 49, 52, 50, 52, 51, 52, 52, 52, 53, 52, 54, 52, 55, 52, 56, 52, 57, 53, 48, 53, 49, 53, 50, 53, 51, 53, 52, 53, 53, 53, 54, 53, 55, 53, 56, 53, 57, 54, 48, 54, 49, 54, 50, 54, 51, 54, 52, 54, 53, 54, 54, 54, 55, 54, 56, 54, 57, 55, 48, 55, 49, 55, 50, 55, 51, 55, 52, 55, 53, 55, 54, 55, 55, 55, 56, 55, 57, 56, 48, 56, 49, 56, 50, 56, 51, 56, 52, 56, 53, 56, 54, 56, 55, 56, 56, 56, 57, 57, 48, 57, 49, 57, 50, 57, 51, 57, 52, 57, 53, 57, 54, 57, 55, 57, 56, 57, 57] })) (.tmp 88)⟩,
        ⟨some 90, .none, false, 136, .move (.tmp 10)⟩,
        ⟨some 91, .none, false, 5, .index 9 (.const (.string { data := #[48, 48, 48, 49, 48, 50, 48, 51, 48, 52, 48, 53, 48, 54, 48, 55, 48, 56, 48, 57, 49, 48, 49, 49, 49, 50, 49, 51, 49, 52, 49, 53, 49, 54, 49, 55, 49, 56, 49, 57, 50, 48, 50, 49, 50, 50, 50, 51, 50, 52, 50, 53, 50, 54, 50, 55, 50, 56, 50, 57, 51, 48, 51, 49, 51, 50, 51, 51, 51, 52, 51, 53, 51, 54, 51, 55, 51, 56, 51, 57, 52, 48, 52, 49, 52, 50, 52, 51, 52, 52, 52, 53, 52, 54, 52, 55, 52, 56, 52, 57, 53, 48, 53, 49, 53, 50, 53, 51, 53, 52, 53, 53, 53, 54, 53, 55, 53, 56, 53, 57, 54, 48, 54, 49, 54, 50, 54, 51, 54, 52, 54, 53, 54, 54, 54, 55, 54, 56, 54, 57, 55, 48, 55, 49, 55, 50, 55, 51, 55, 52, 55, 53, 55, 54, 55, 55, 55, 56, 55, 57, 56, 48, 56, 49, 56, 50, 56, 51, 56, 52, 56, 53, 56, 54, 56, 55, 56, 56, 56, 57, 57, 48, 57, 49, 57, 50, 57, 51, 57, 52, 57, 53, 57, 54, 57, 55, 57, 56, 57, 57] })) (.tmp 90)⟩,
        ⟨some 92, .none, true, 0, .indexAddr 93 (.tmp 81) (.tmp 83)⟩,
        ⟨none, .none, true, 0, .store 5 (.tmp 92) (.tmp 89)⟩,
        ⟨some 93, .none, true, 0, .indexAddr 93 (.tmp 84) (.tmp 86)⟩,
        ⟨none, .none, true, 0, .store 5 (.tmp 93) (.tmp 91)⟩])
    (.keep [0, 1, 4]
    (.region [⟨some 94, .none, true, 3, .move (.tmp 4)⟩,
      ⟨some 95, .none, true, 3, .binOp .sub 3 (.tmp 94) (.const (.int .i64 8)) 3⟩,
      ⟨some 4, .none, true, 3, .assign (.tmp 95)⟩])))))))))))))))))))))
def rc_internal_strconv_formatBase10 : RCode :=
  (.seq
    (.region [⟨some 17, .none, true, 93, .move (.tmp 0)⟩,
      ⟨some 18, .none, true, 3, .call { callee := .builtin .len, args := #[.tmp 17], argTypes := #[93] }⟩,
      ⟨some 4, .none, true, 3, .assign (.tmp 18)⟩])
  (.keep [0, 1, 4]
  (.seq
    (.block 0
      (.loop [0, 1, 4] rc_internal_strconv_formatBase10l0))
  (.keep [0, 1, 4]
  (.seq
    (.region [⟨some 96, .none, true, 27, .move (.tmp 1)⟩,
      ⟨some 97, .none, true, 136, .convert 27 136 (.tmp 96)⟩,
      ⟨some 12, .none, true, 136, .assign (.tmp 97)⟩])
  (.keep [0, 4, 12]
  (.seq
    (.seq
      (.region [⟨some 98, .none, true, 3, .move (.tmp 4)⟩,
        ⟨some 99, .none, true, 4, .binOp .geq 3 (.tmp 98) (.const (.int .i64 4)) 3⟩])
    (.keep [0, 4, 12, 99]
    (.cond (.tmp 99)
      (.seq
        (.region [⟨some 100, .none, true, 136, .move (.tmp 12)⟩,
          ⟨some 101, .none, true, 136, .binOp .rem 136 (.tmp 100) (.const (.int .u32 10000)) 136⟩,
          ⟨some 13, .none, true, 136, .assign (.tmp 101)⟩])
      (.keep [0, 4, 12, 13]
      (.seq
        (.region [⟨some 102, .none, true, 136, .move (.tmp 12)⟩,
          ⟨some 103, .none, true, 136, .binOp .quo 136 (.tmp 102) (.const (.int .u32 10000)) 136⟩,
          ⟨some 12, .none, true, 136, .assign (.tmp 103)⟩])
      (.keep [0, 4, 12, 13]
      (.seq
        (.region [⟨some 104, .none, true, 136, .move (.tmp 13)⟩,
          ⟨some 105, .none, true, 136, .binOp .quo 136 (.tmp 104) (.const (.int .u32 100)) 136⟩,
          ⟨some 106, .none, true, 136, .binOp .mul 136 (.tmp 105) (.const (.int .u32 2)) 136⟩,
          ⟨some 107, .none, true, 136, .move (.tmp 13)⟩,
          ⟨some 108, .none, true, 136, .binOp .rem 136 (.tmp 107) (.const (.int .u32 100)) 136⟩,
          ⟨some 109, .none, true, 136, .binOp .mul 136 (.tmp 108) (.const (.int .u32 2)) 136⟩,
          ⟨some 14, .none, true, 136, .assign (.tmp 106)⟩,
          ⟨some 15, .none, true, 136, .assign (.tmp 109)⟩])
      (.keep [0, 4, 12, 14, 15]
      (.seq
        (.region [⟨some 110, .none, true, 93, .move (.tmp 0)⟩,
          ⟨some 111, .none, true, 3, .move (.tmp 4)⟩,
          ⟨some 112, .none, true, 3, .binOp .sub 3 (.tmp 111) (.const (.int .i64 1)) 3⟩,
          ⟨some 113, .none, false, 93, .move (.tmp 0)⟩,
          ⟨some 114, .none, false, 3, .move (.tmp 4)⟩,
          ⟨some 115, .none, false, 3, .binOp .sub 3 (.tmp 114) (.const (.int .i64 2)) 3⟩,
          ⟨some 116, .none, true, 136, .move (.tmp 15)⟩,
          ⟨some 117, .none, true, 136, .binOp .add 136 (.tmp 116) (.const (.int .u32 1)) 136⟩,
          ⟨some 118, .none, true, 5, .index 9 (.const (.string { data := #[48, 48, 48, 49, 48, 50, 48, 51, 48, 52, 48, 53, 48, 54, 48, 55, 48, 56, 48, 57, 49, 48, 49, 49, 49, 50, 49, 51, 49, 52, 49, 53, 49, 54, 49, 55, 49, 56, 49, 57, 50, 48, 50, 49, 50, 50, 50, 51, 50, 52, 50, 53, 50, 54, 50, 55, 50, 56, 50, 57, 51, 48, 51, 49, 51, 50, 51, 51, 51, 52, 51, 53, 51, 54, 51, 55, 51, 56, 51, 57, 52, 48, 52, 49, 52, 50, 52, 51, 52, 52, 52, 53, 52, 54, 52, 55, 52, 56, 52, 57, 53, 48, 53, 49, 53, 50, 53, 51, 53, 52, 53, 53, 53, 54, 53, 55, 53, 56, 53, 57, 54, 48, 54, 49, 54, 50, 54, 51, 54, 52, 54, 53, 54, 54, 54, 55, 54, 56, 54, 57, 55, 48, 55, 49, 55, 50, 55, 51, 55, 52, 55, 53, 55, 54, 55, 55, 55, 56, 55, 57, 56, 48, 56, 49, 56, 50, 56, 51, 56, 52, 56, 53, 56, 54, 56, 55, 56, 56, 56, 57, 57, 48, 57, 49, 57, 50, 57, 51, 57, 52, 57, 53, 57, 54, 57, 55, 57, 56, 57, 57] })) (.tmp 117)⟩,
          ⟨some 119, .none, false, 136, .move (.tmp 15)⟩,
          ⟨some 120, .none, false, 5, .index 9 (.const (.string { data := #[48, 48, 48, 49, 48, 50, 48, 51, 48, 52, 48, 53, 48, 54, 48, 55, 48, 56, 48, 57, 49, 48, 49, 49, 49, 50, 49, 51, 49, 52, 49, 53, 49, 54, 49, 55, 49, 56, 49, 57, 50, 48, 50, 49, 50, 50, 50, 51, 50, 52, 50, 53, 50, 54, 50, 55, 50, 56, 50, 57, 51, 48, 51, 49, 51, 50, 51, 51, 51, 52, 51, 53, 51, 54, 51, 55, 51, 56, 51, 57, 52, 48, 52, 49, 52, 50, 52, 51, 52, 52, 52, 53, 52, 54, 52, 55, 52, 56, 52, 57, 53, 48, 53, 49, 53, 50, 53, 51, 53, 52, 53, 53, 53, 54, 53, 55, 53, 56, 53, 57, 54, 48, 54, 49, 54, 50, 54, 51, 54, 52, 54, 53, 54, 54, 54, 55, 54, 56, 54, 57, 55, 48, 55, 49, 55, 50, 55, 51, 55, 52, 55, 53, 55, 54, 55, 55, 55, 56, 55, 57, 56, 48, 56, 49, 56, 50, 56, 51, 56, 52, 56, 53, 56, 54, 56, 55, 56, 56, 56, 57, 57, 48, 57, 49, 57, 50, 57, 51, 57, 52, 57, 53, 57, 54, 57, 55, 57, 56, 57, 57] })) (.tmp 119)⟩,
          ⟨some 121, .none, true, 0, .indexAddr 93 (.tmp 110) (.tmp 112)⟩,
          ⟨none, .none, true, 0, .store 5 (.tmp 121) (.tmp 118)⟩,
          ⟨some 122, .none, true, 0, .indexAddr 93 (.tmp 113) (.tmp 115)⟩,
          ⟨none, .none, true, 0, .store 5 (.tmp 122) (.tmp 120)⟩])
      (.keep [0, 4, 12, 14]
      (.seq
        (.region [⟨some 123, .none, true, 93, .move (.tmp 0)⟩,
          ⟨some 124, .none, true, 3, .move (.tmp 4)⟩,
          ⟨some 125, .none, true, 3, .binOp .sub 3 (.tmp 124) (.const (.int .i64 3)) 3⟩,
          ⟨some 126, .none, false, 93, .move (.tmp 0)⟩,
          ⟨some 127, .none, false, 3, .move (.tmp 4)⟩,
          ⟨some 128, .none, false, 3, .binOp .sub 3 (.tmp 127) (.const (.int .i64 4)) 3⟩,
          ⟨some 129, .none, true, 136, .move (.tmp 14)⟩,
          ⟨some 130, .none, true, 136, .binOp .add 136 (.tmp 129) (.const (.int .u32 1)) 136⟩,
          ⟨some 131, .none, true, 5, .index 9 (.const (.string { data := #[48, 48, 48, 49, 48, 50, 48, 51, 48, 52, 48, 53, 48, 54, 48, 55, 48, 56, 48, 57, 49, 48, 49, 49, 49, 50, 49, 51, 49, 52, 49, 53, 49, 54, 49, 55, 49, 56, 49, 57, 50, 48, 50, 49, 50, 50, 50, 51, 50, 52, 50, 53, 50, 54, 50, 55, 50, 56, 50, 57, 51, 48, 51, 49, 51, 50, 51, 51, 51, 52, 51, 53, 51, 54, 51, 55, 51, 56, 51, 57, 52, 48, 52, 49, 52, 50, 52, 51, 52, 52, 52, 53, 52, 54, 52, 55, 52, 56, 52, 57, 53, 48, 53, 49, 53, 50, 53, 51, 53, 52, 53, 53, 53, 54, 53, 55, 53, 56, 53, 57, 54, 48, 54, 49, 54, 50, 54, 51, 54, 52, 54, 53, 54, 54, 54, 55, 54, 56, 54, 57, 55, 48, 55, 49, 55, 50, 55, 51, 55, 52, 55, 53, 55, 54, 55, 55, 55, 56, 55, 57, 56, 48, 56, 49, 56, 50, 56, 51, 56, 52, 56, 53, 56, 54, 56, 55, 56, 56, 56, 57, 57, 48, 57, 49, 57, 50, 57, 51, 57, 52, 57, 53, 57, 54, 57, 55, 57, 56, 57, 57] })) (.tmp 130)⟩,
          ⟨some 132, .none, false, 136, .move (.tmp 14)⟩,
          ⟨some 133, .none, false, 5, .index 9 (.const (.string { data := #[48, 48, 48, 49, 48, 50, 48, 51, 48, 52, 48, 53, 48, 54, 48, 55, 48, 56, 48, 57, 49, 48, 49, 49, 49, 50, 49, 51, 49, 52, 49, 53, 49, 54, 49, 55, 49, 56, 49, 57, 50, 48, 50, 49, 50, 50, 50, 51, 50, 52, 50, 53, 50, 54, 50, 55, 50, 56, 50, 57, 51, 48, 51, 49, 51, 50, 51, 51, 51, 52, 51, 53, 51, 54, 51, 55, 51, 56, 51, 57, 52, 48, 52, 49, 52, 50, 52, 51, 52, 52, 52, 53, 52, 54, 52, 55, 52, 56, 52, 57, 53, 48, 53, 49, 53, 50, 53, 51, 53, 52, 53, 53, 53, 54, 53, 55, 53, 56, 53, 57, 54, 48, 54, 49, 54, 50, 54, 51, 54, 52, 54, 53, 54, 54, 54, 55, 54, 56, 54, 57, 55, 48, 55, 49, 55, 50, 55, 51, 55, 52, 55, 53, 55, 54, 55, 55, 55, 56, 55, 57, 56, 48, 56, 49, 56, 50, 56, 51, 56, 52, 56, 53, 56, 54, 56, 55, 56, 56, 56, 57, 57, 48, 57, 49, 57, 50, 57, 51, 57, 52, 57, 53, 57, 54, 57, 55, 57, 56, 57, 57] })) (.tmp 132)⟩,
          ⟨some 134, .none, true, 0, .indexAddr 93 (.tmp 123) (.tmp 125)⟩,
          ⟨none, .none, true, 0, .store 5 (.tmp 134) (.tmp 131)⟩,
          ⟨some 135, .none, true, 0, .indexAddr 93 (.tmp 126) (.tmp 128)⟩,
          ⟨none, .none, true, 0, .store 5 (.tmp 135) (.tmp 133)⟩])
      (.keep [0, 4, 12]
      (.region [⟨some 136, .none, true, 3, .move (.tmp 4)⟩,
        ⟨some 137, .none, true, 3, .binOp .sub 3 (.tmp 136) (.const (.int .i64 4)) 3⟩,
        ⟨some 4, .none, true, 3, .assign (.tmp 137)⟩])))))))))))
      .skip)))
  (.seq
    (.seq
      (.region [⟨some 138, .none, true, 3, .move (.tmp 4)⟩,
        ⟨some 139, .none, true, 4, .binOp .geq 3 (.tmp 138) (.const (.int .i64 2)) 3⟩])
    (.keep [0, 4, 12, 139]
    (.cond (.tmp 139)
      (.seq
        (.region [⟨some 140, .none, true, 136, .move (.tmp 12)⟩,
          ⟨some 141, .none, true, 136, .binOp .rem 136 (.tmp 140) (.const (.int .u32 100)) 136⟩,
          ⟨some 142, .none, true, 136, .binOp .mul 136 (.tmp 141) (.const (.int .u32 2)) 136⟩,
          ⟨some 16, .none, true, 136, .assign (.tmp 142)⟩])
      (.keep [0, 4, 12, 16]
      (.seq
        (.region [⟨some 143, .none, true, 136, .move (.tmp 12)⟩,
          ⟨some 144, .none, true, 136, .binOp .quo 136 (.tmp 143) (.const (.int .u32 100)) 136⟩,
          ⟨some 12, .none, true, 136, .assign (.tmp 144)⟩])
      (.keep [0, 4, 12, 16]
      (.seq
        (.region [⟨some 145, .none, true, 93, .move (.tmp 0)⟩,
          ⟨some 146, .none, true, 3, .move (.tmp 4)⟩,
          ⟨some 147, .none, true, 3, .binOp .sub 3 (.tmp 146) (.const (.int .i64 1)) 3⟩,
          ⟨some 148, .none, false, 93, .move (.tmp 0)⟩,
          ⟨some 149, .none, false, 3, .move (.tmp 4)⟩,
          ⟨some 150, .none, false, 3, .binOp .sub 3 (.tmp 149) (.const (.int .i64 2)) 3⟩,
          ⟨some 151, .none, true, 136, .move (.tmp 16)⟩,
          ⟨some 152, .none, true, 136, .binOp .add 136 (.tmp 151) (.const (.int .u32 1)) 136⟩,
          ⟨some 153, .none, true, 5, .index 9 (.const (.string { data := #[48, 48, 48, 49, 48, 50, 48, 51, 48, 52, 48, 53, 48, 54, 48, 55, 48, 56, 48, 57, 49, 48, 49, 49, 49, 50, 49, 51, 49, 52, 49, 53, 49, 54, 49, 55, 49, 56, 49, 57, 50, 48, 50, 49, 50, 50, 50, 51, 50, 52, 50, 53, 50, 54, 50, 55, 50, 56, 50, 57, 51, 48, 51, 49, 51, 50, 51, 51, 51, 52, 51, 53, 51, 54, 51, 55, 51, 56, 51, 57, 52, 48, 52, 49, 52, 50, 52, 51, 52, 52, 52, 53, 52, 54, 52, 55, 52, 56, 52, 57, 53, 48, 53, 49, 53, 50, 53, 51, 53, 52, 53, 53, 53, 54, 53, 55, 53, 56, 53, 57, 54, 48, 54, 49, 54, 50, 54, 51, 54, 52, 54, 53, 54, 54, 54, 55, 54, 56, 54, 57, 55, 48, 55, 49, 55, 50, 55, 51, 55, 52, 55, 53, 55, 54, 55, 55, 55, 56, 55, 57, 56, 48, 56, 49, 56, 50, 56, 51, 56, 52, 56, 53, 56, 54, 56, 55, 56, 56, 56, 57, 57, 48, 57, 49, 57, 50, 57, 51, 57, 52, 57, 53, 57, 54, 57, 55, 57, 56, 57, 57] })) (.tmp 152)⟩,
          ⟨some 154, .none, false, 136, .move (.tmp 16)⟩,
          ⟨some 155, .none, false, 5, .index 9 (.const (.string { data := #[48, 48, 48, 49, 48, 50, 48, 51, 48, 52, 48, 53, 48, 54, 48, 55, 48, 56, 48, 57, 49, 48, 49, 49, 49, 50, 49, 51, 49, 52, 49, 53, 49, 54, 49, 55, 49, 56, 49, 57, 50, 48, 50, 49, 50, 50, 50, 51, 50, 52, 50, 53, 50, 54, 50, 55, 50, 56, 50, 57, 51, 48, 51, 49, 51, 50, 51, 51, 51, 52, 51, 53, 51, 54, 51, 55, 51, 56, 51, 57, 52, 48, 52, 49, 52, 50, 52, 51, 52, 52, 52, 53, 52, 54, 52, 55, 52, 56, 52, 57, 53, 48, 53, 49, 53, 50, 53, 51, 53, 52, 53, 53, 53, 54, 53, 55, 53, 56, 53, 57, 54, 48, 54, 49, 54, 50, 54, 51, 54, 52, 54, 53, 54, 54, 54, 55, 54, 56, 54, 57, 55, 48, 55, 49, 55, 50, 55, 51, 55, 52, 55, 53, 55, 54, 55, 55, 55, 56, 55, 57, 56, 48, 56, 49, 56, 50, 56, 51, 56, 52, 56, 53, 56, 54, 56, 55, 56, 56, 56, 57, 57, 48, 57, 49, 57, 50, 57, 51, 57, 52, 57, 53, 57, 54, 57, 55, 57, 56, 57, 57] })) (.tmp 154)⟩,
          ⟨some 156, .none, true, 0, .indexAddr 93 (.tmp 145) (.tmp 147)⟩,
          ⟨none, .none, true, 0, .store 5 (.tmp 156) (.tmp 153)⟩,
          ⟨some 157, .none, true, 0, .indexAddr 93 (.tmp 148) (.tmp 150)⟩,
          ⟨none, .none, true, 0, .store 5 (.tmp 157) (.tmp 155)⟩])
      (.keep [0, 4, 12]
      (.region [⟨some 158, .none, true, 3, .move (.tmp 4)⟩,
        ⟨some 159, .none, true, 3, .binOp .sub 3 (.tmp 158) (.const (.int .i64 2)) 3⟩,
        ⟨some 4, .none, true, 3, .assign (.tmp 159)⟩])))))))
      .skip)))
  (.seq
    (.region [⟨some 160, .none, true, 3, .move (.tmp 4)⟩,
      ⟨some 161, .none, true, 4, .binOp .gtr 3 (.tmp 160) (.const (.int .i64 0)) 3⟩])
  (.keep [0, 12, 161]
  (.cond (.tmp 161)
    (.region [⟨some 162, .none, true, 93, .move (.tmp 0)⟩,
      ⟨some 163, .none, true, 136, .move (.tmp 12)⟩,
      ⟨some 164, .none, true, 136, .binOp .add 136 (.const (.int .u32 48)) (.tmp 163) 136⟩,
      ⟨some 165, .none, true, 5, .convert 136 5 (.tmp 164)⟩,
      ⟨some 166, .none, true, 0, .indexAddr 93 (.tmp 162) (.const (.int .i64 0))⟩,
      ⟨none, .none, true, 0, .store 5 (.tmp 166) (.tmp 165)⟩])
    .skip)))))))))))
theorem t_internal_strconv_formatBase10 : FnT Tryd.prog f_internal_strconv_formatBase10 rc_internal_strconv_formatBase10 [] 2 := ⟨⟨[], Tryd.f92, _, Tryd.func92, rfl, by kernel_rfl, by kernel_rfl, by kernel_rfl, rfl, by decide⟩, by kernel_rfl⟩
/-- internal/strconv.formatBits -/
abbrev f_internal_strconv_formatBits : FuncId := 93
def rc_internal_strconv_formatBitsl0 : RCode :=
  (.seq
    (.seq
      (.region [⟨some 44, .none, true, 27, .move (.tmp 1)⟩,
        ⟨some 45, .none, true, 27, .move (.tmp 15)⟩,
        ⟨some 46, .none, true, 4, .binOp .geq 27 (.tmp 44) (.tmp 45) 27⟩])
    (.keep [0, 1, 3, 4, 10, 11, 12, 13, 14, 15, 16, 46]
    (.cond (.tmp 46)
      .skip
      (.exit 0))))
  (.block 1
    (.seq
      (.region [⟨some 47, .none, true, 3, .move (.tmp 13)⟩,
        ⟨some 48, .none, true, 3, .binOp .sub 3 (.tmp 47) (.const (.int .i64 1)) 3⟩,
        ⟨some 13, .none, true, 3, .assign (.tmp 48)⟩])
    (.keep [0, 1, 3, 4, 10, 11, 12, 13, 14, 15, 16]
    (.seq
      (.region [⟨some 49, .none, true, 3, .move (.tmp 13)⟩,
        ⟨some 50, .none, true, 27, .move (.tmp 1)⟩,
        ⟨some 51, .none, true, 85, .move (.tmp 16)⟩,
        ⟨some 52, .none, true, 85, .binOp .and 85 (.tmp 50) (.tmp 51) 85⟩,
        ⟨some 53, .none, true, 5, .index 9 (.const (.string { data := #[48, 49, 50, 51, 52, 53, 54, 55, 56, 57, 97, 98, 99, 100, 101, 102, 103, 104, 105, 106, 107, 108, 109, 110, 111, 112, 113, 114, 115, 116, 117, 118, 119, 120, 121, 122] })) (.tmp 52)⟩,
        ⟨some 54, .none, true, 0, .indexAddr 137 (.tmp 12) (.tmp 49)⟩,
        ⟨none, .none, true, 0, .store 5 (.tmp 54) (.tmp 53)⟩])
    (.keep [0, 1, 3, 4, 10, 11, 12, 13, 14, 15, 16]
    (.region [⟨some 55, .none, true, 27, .move (.tmp 1)⟩,
      ⟨some 56, .none, true, 85, .move (.tmp 14)⟩,
      ⟨some 57, .none, true, 27, .binOp .shr 27 (.tmp 55) (.tmp 56) 85⟩,
      ⟨some 1, .none, true, 27, .assign (.tmp 57)⟩])))))))
def rc_internal_strconv_formatBitsl1 : RCode :=
  (.seq
    (.seq
      (.region [⟨some 66, .none, true, 27, .move (.tmp 1)⟩,
        ⟨some 67, .none, true, 27, .move (.tmp 17)⟩,
        ⟨some 68, .none, true, 4, .binOp .geq 27 (.tmp 66) (.tmp 67) 27⟩])
    (.keep [0, 1, 3, 4, 10, 11, 12, 13, 17, 68]
    (.cond (.tmp 68)
      .skip
      (.exit 2))))
  (.block 3
    (.seq
      (.region [⟨some 69, .none, true, 3, .move (.tmp 13)⟩,
        ⟨some 70, .none, true, 3, .binOp .sub 3 (.tmp 69) (.const (.int .i64 1)) 3⟩,
        ⟨some 13, .none, true, 3, .assign (.tmp 70)⟩])
    (.keep [0, 1, 3, 4, 10, 11, 12, 13, 17]
    (.seq
      (.region [⟨some 71, .none, true, 27, .move (.tmp 1)⟩,
        ⟨some 72, .none, true, 27, .move (.tmp 17)⟩,
        ⟨some 73, .none, true, 27, .binOp .quo 27 (.tmp 71) (.tmp 72) 27⟩,
        ⟨some 18, .none, true, 27, .assign (.tmp 73)⟩])
    (.keep [0, 1, 3, 4, 10, 11, 12, 13, 17, 18]
    (.seq
      (.region [⟨some 74, .none, true, 3, .move (.tmp 13)⟩,
        ⟨some 75, .none, true, 27, .move (.tmp 1)⟩,
        ⟨some 76, .none, true, 27, .move (.tmp 18)⟩,
        ⟨some 77, .none, true, 27, .move (.tmp 17)⟩,
        ⟨some 78, .none, true, 27, .binOp .mul 27 (.tmp 76) (.tmp 77) 27⟩,
        ⟨some 79, .none, true, 27, .binOp .sub 27 (.tmp 75) (.tmp 78) 27⟩,
        ⟨some 80, .none, true, 5, .index 9 (.const (.string { data := #[48, 49, 50, 51, 52, 53, 54, 55, 56, 57, 97, 98, 99, 100, 101, 102, 103, 104, 105, 106, 107, 108, 109, 110, 111, 112, 113, 114, 115, 116, 117, 118, 119, 120, 121, 122] })) (.tmp 79)⟩,
        ⟨some 81, .none, true, 0, .indexAddr 137 (.tmp 12) (.tmp 74)⟩,
        ⟨none, .none, true, 0, .store 5 (.tmp 81) (.tmp 80)⟩])
    (.keep [0, 3, 4, 10, 11, 12, 13, 17, 18]
    (.region [⟨some 82, .none, true, 27, .move (.tmp 18)⟩,
      ⟨some 1, .none, true, 27, .assign (.tmp 82)⟩])))))))))
def rc_internal_strconv_formatBits : RCode :=
  (.seq
    (.region [⟨some 10, .none, true, 93, .assign (.const (.slice none 0 0))⟩,
      ⟨some 11, .none, true, 9, .assign (.const (.string { data := #[] }))⟩])
  (.keep [0, 1, 2, 3, 4, 10, 11]
  (.seq
    (.seq
      (.region [⟨some 19, .none, true, 3, .move (.tmp 2)⟩,
        ⟨some 20, .none, true, 4, .binOp .lss 3 (.tmp 19) (.const (.int .i64 2)) 3⟩,
        ⟨some 21, .none, true, 4, .move (.tmp 20)⟩,
        ⟨some 22, .some 21 false, true, 3, .move (.tmp 2)⟩,
        ⟨some 23, .some 21 false, true, 4, .binOp .eql 3 (.tmp 22) (.const (.int .i64 10)) 3⟩,
        ⟨some 24, .none, true, 4, .pick (.tmp 21) (.const (.bool true)) (.tmp 23)⟩,
        ⟨some 25, .none, true, 4, .move (.tmp 24)⟩,
        ⟨some 26, .some 25 false, true, 3, .move (.tmp 2)⟩,
        ⟨some 27, .some 25 false, true, 4, .binOp .gtr 3 (.tmp 26) (.const (.int .i64 36)) 3⟩,
        ⟨some 28, .none, true, 4, .pick (.tmp 25) (.const (.bool true)) (.tmp 27)⟩])
    (.keep [0, 1, 2, 3, 4, 10, 11, 28]
    (.cond (.tmp 28)
      (.region [⟨some 29, .none, true, 20, .makeInterface 9 (.const (.string { data := #[115, 116, 114, 99, 111, 110, 118, 58, 32, 105, 108, 108, 101, 103, 97, 108, 32, 65, 112, 112, 101, 110, 100, 73, 110, 116, 47, 70, 111, 114, 109, 97, 116, 73, 110, 116, 32, 98, 97, 115, 101] }))⟩,
        ⟨none, .none, true, 0, .panic (.tmp 29)⟩])
      .skip)))
  (.seq
    (.region [⟨some 12, .none, true, 0, .alloc 137⟩])
  (.keep [0, 1, 2, 3, 4, 10, 11, 12]
  (.seq
    (.region [⟨some 13, .none, true, 3, .assign (.const (.int .i64 65))⟩])
  (.keep [0, 1, 2, 3, 4, 10, 11, 12, 13]
  (.seq
    (.seq
      (.region [⟨some 30, .none, true, 4, .move (.tmp 3)⟩])
    (.keep [0, 1, 2, 3, 4, 10, 11, 12, 13, 30]
    (.cond (.tmp 30)
      (.region [⟨some 31, .none, true, 27, .move (.tmp 1)⟩,
        ⟨some 32, .none, true, 27, .unOp .neg 27 (.tmp 31)⟩,
        ⟨some 1, .none, true, 27, .assign (.tmp 32)⟩])
      .skip)))
  (.seq
    (.seq
      (.region [⟨some 33, .none, true, 3, .move (.tmp 2)⟩,
        ⟨some 34, .none, true, 4, .call { callee := .value (.func 106), args := #[.tmp 33], argTypes := #[3] }⟩])
    (.keep [0, 1, 2, 3, 4, 10, 11, 12, 13, 34]
    (.cond (.tmp 34)
      (.seq
        (.region [⟨some 35, .none, true, 3, .move (.tmp 2)⟩,
          ⟨some 36, .none, true, 85, .convert 3 85 (.tmp 35)⟩,
          ⟨some 37, .none, true, 3, .call { callee := .value (.func 107), args := #[.tmp 36], argTypes := #[85] }⟩,
          ⟨some 38, .none, true, 85, .convert 3 85 (.tmp 37)⟩,
          ⟨some 14, .none, true, 85, .assign (.tmp 38)⟩])
      (.keep [0, 1, 2, 3, 4, 10, 11, 12, 13, 14]
      (.seq
        (.region [⟨some 39, .none, true, 3, .move (.tmp 2)⟩,
          ⟨some 40, .none, true, 27, .convert 3 27 (.tmp 39)⟩,
          ⟨some 15, .none, true, 27, .assign (.tmp 40)⟩])
      (.keep [0, 1, 2, 3, 4, 10, 11, 12, 13, 14, 15]
      (.seq
        (.region [⟨some 41, .none, true, 3, .move (.tmp 2)⟩,
          ⟨some 42, .none, true, 85, .convert 3 85 (.tmp 41)⟩,
          ⟨some 43, .none, true, 85, .binOp .sub 85 (.tmp 42) (.const (.int .u64 1)) 85⟩,
          ⟨some 16, .none, true, 85, .assign (.tmp 43)⟩])
      (.keep [0, 1, 3, 4, 10, 11, 12, 13, 14, 15, 16]
      (.seq
        (.block 0
          (.loop [0, 1, 3, 4, 10, 11, 12, 13, 14, 15, 16] rc_internal_strconv_formatBitsl0))
      (.keep [0, 1, 3, 4, 10, 11, 12, 13]
      (.seq
        (.region [⟨some 58, .none, true, 3, .move (.tmp 13)⟩,
          ⟨some 59, .none, true, 3, .binOp .sub 3 (.tmp 58) (.const (.int .i64 1)) 3⟩,
          ⟨some 13, .none, true, 3, .assign (.tmp 59)⟩])
      (.keep [0, 1, 3, 4, 10, 11, 12, 13]
      (.region [⟨some 60, .none, true, 3, .move (.tmp 13)⟩,
        ⟨some 61, .none, true, 27, .move (.tmp 1)⟩,
        ⟨some 62, .none, true, 5, .index 9 (.const (.string { data := #[48, 49, 50, 51, 52, 53, 54, 55, 56, 57, 97, 98, 99, 100, 101, 102, 103, 104, 105, 106, 107, 108, 109, 110, 111, 112, 113, 114, 115, 116, 117, 118, 119, 120, 121, 122] })) (.tmp 61)⟩,
        ⟨some 63, .none, true, 0, .indexAddr 137 (.tmp 12) (.tmp 60)⟩,
        ⟨none, .none, true, 0, .store 5 (.tmp 63) (.tmp 62)⟩])))))))))))
      (.seq
        (.region [⟨some 64, .none, true, 3, .move (.tmp 2)⟩,
          ⟨some 65, .none, true, 27, .convert 3 27 (.tmp 64)⟩,
          ⟨some 17, .none, true, 27, .assign (.tmp 65)⟩])
      (.keep [0, 1, 3, 4, 10, 11, 12, 13, 17]
      (.seq
        (.block 2
          (.loop [0, 1, 3, 4, 10, 11, 12, 13, 17] rc_internal_strconv_formatBitsl1))
      (.keep [0, 1, 3, 4, 10, 11, 12, 13]
      (.seq
        (.region [⟨some 83, .none, true, 3, .move (.tmp 13)⟩,
          ⟨some 84, .none, true, 3, .binOp .sub 3 (.tmp 83) (.const (.int .i64 1)) 3⟩,
          ⟨some 13, .none, true, 3, .assign (.tmp 84)⟩])
      (.keep [0, 1, 3, 4, 10, 11, 12, 13]
      (.region [⟨some 85, .none, true, 3, .move (.tmp 13)⟩,
        ⟨some 86, .none, true, 27, .move (.tmp 1)⟩,
        ⟨some 87, .none, true, 5, .index 9 (.const (.string { data := #[48, 49, 50, 51, 52, 53, 54, 55, 56, 57, 97, 98, 99, 100, 101, 102, 103, 104, 105, 106, 107, 108, 109, 110, 111, 112, 113, 114, 115, 116, 117, 118, 119, 120, 121, 122] })) (.tmp 86)⟩,
        ⟨some 88, .none, true, 0, .indexAddr 137 (.tmp 12) (.tmp 85)⟩,
        ⟨none, .none, true, 0, .store 5 (.tmp 88) (.tmp 87)⟩]))))))))))
  (.seq
    (.seq
      (.region [⟨some 89, .none, true, 4, .move (.tmp 3)⟩])
    (.keep [0, 4, 10, 11, 12, 13, 89]
    (.cond (.tmp 89)
      (.seq
        (.region [⟨some 90, .none, true, 3, .move (.tmp 13)⟩,
          ⟨some 91, .none, true, 3, .binOp .sub 3 (.tmp 90) (.const (.int .i64 1)) 3⟩,
          ⟨some 13, .none, true, 3, .assign (.tmp 91)⟩])
      (.keep [0, 4, 10, 11, 12, 13]
      (.region [⟨some 92, .none, true, 3, .move (.tmp 13)⟩,
        ⟨some 93, .none, true, 0, .indexAddr 137 (.tmp 12) (.tmp 92)⟩,
        ⟨none, .none, true, 0, .store 5 (.tmp 93) (.const (.int .u8 45))⟩])))
      .skip)))
  (.seq
    (.seq
      (.region [⟨some 94, .none, true, 4, .move (.tmp 4)⟩])
    (.keep [0, 10, 11, 12, 13, 94]
    (.cond (.tmp 94)
      (.seq
        (.region [⟨some 95, .none, true, 93, .move (.tmp 0)⟩,
          ⟨some 96, .none, true, 3, .move (.tmp 13)⟩,
          ⟨some 97, .none, true, 93, .slice 137 (.tmp 12) (some (.tmp 96)) none none⟩,
          ⟨some 98, .none, true, 93, .call { callee := .builtin .append, args := #[.tmp 95, .tmp 97], argTypes := #[93, 93] }⟩,
          ⟨some 10, .none, true, 93, .assign (.tmp 98)⟩])
      .ret)
      .skip)))
  (.seq
    (.region [⟨some 99, .none, true, 3, .move (.tmp 13)⟩,
      ⟨some 100, .none, true, 93, .slice 137 (.tmp 12) (some (.tmp 99)) none none⟩,
      ⟨some 101, .none, true, 9, .convert 93 9 (.tmp 100)⟩,
      ⟨some 11, .none, true, 9, .assign (.tmp 101)⟩])
  .ret))))))))))))
theorem t_internal_strconv_formatBits : FnT Tryd.prog f_internal_strconv_formatBits rc_internal_strconv_formatBits [.tmp 10, .tmp 11] 5 := ⟨⟨[], Tryd.f93, _, Tryd.func93, rfl, by kernel_rfl, by kernel_rfl, by kernel_rfl, rfl, by decide⟩, by kernel_rfl⟩
/-- internal/strconv.log10Pow2 -/
abbrev f_internal_strconv_log10Pow2 : FuncId := 103
def rc_internal_strconv_log10Pow2 : RCode :=
  (.seq
    (.region [⟨some 2, .none, true, 3, .assign (.const (.int .i64 0))⟩])
  (.keep [0]
  (.seq
    (.region [⟨some 3, .none, true, 3, .move (.tmp 0)⟩,
      ⟨some 4, .none, true, 3, .binOp .mul 3 (.tmp 3) (.const (.int .i64 78913)) 3⟩,
      ⟨some 5, .none, true, 3, .binOp .shr 3 (.tmp 4) (.const (.int .u64 18)) 85⟩,
      ⟨some 2, .none, true, 3, .assign (.tmp 5)⟩])
  .ret)))
theorem t_internal_strconv_log10Pow2 : FnT Tryd.prog f_internal_strconv_log10Pow2 rc_internal_strconv_log10Pow2 [.tmp 2] 1 := ⟨⟨[], Tryd.f103, _, Tryd.func103, rfl, by kernel_rfl, by kernel_rfl, by kernel_rfl, rfl, by decide⟩, by kernel_rfl⟩
/-- math/bits.Len64 -/
abbrev f_math_bits_Len64 : FuncId := 104
def rc_math_bits_Len64 : RCode :=
  (.seq
    (.region [⟨some 2, .none, true, 3, .assign (.const (.int .i64 0))⟩])
  (.keep [0, 2]
  (.seq
    (.seq
      (.region [⟨some 3, .none, true, 27, .move (.tmp 0)⟩,
        ⟨some 4, .none, true, 4, .binOp .geq 27 (.tmp 3) (.const (.int .u64 4294967296)) 27⟩])
    (.keep [0, 2, 4]
    (.cond (.tmp 4)
      (.seq
        (.region [⟨some 5, .none, true, 27, .move (.tmp 0)⟩,
          ⟨some 6, .none, true, 27, .binOp .shr 27 (.tmp 5) (.const (.int .u64 32)) 85⟩,
          ⟨some 0, .none, true, 27, .assign (.tmp 6)⟩])
      (.keep [0]
      (.region [⟨some 2, .none, true, 3, .assign (.const (.int .i64 32))⟩])))
      .skip)))
  (.seq
    (.seq
      (.region [⟨some 7, .none, true, 27, .move (.tmp 0)⟩,
        ⟨some 8, .none, true, 4, .binOp .geq 27 (.tmp 7) (.const (.int .u64 65536)) 27⟩])
    (.keep [0, 2, 8]
    (.cond (.tmp 8)
      (.seq
        (.region [⟨some 9, .none, true, 27, .move (.tmp 0)⟩,
          ⟨some 10, .none, true, 27, .binOp .shr 27 (.tmp 9) (.const (.int .u64 16)) 85⟩,
          ⟨some 0, .none, true, 27, .assign (.tmp 10)⟩])
      (.keep [0, 2]
      (.region [⟨some 11, .none, true, 3, .move (.tmp 2)⟩,
        ⟨some 12, .none, true, 3, .binOp .add 3 (.tmp 11) (.const (.int .i64 16)) 3⟩,
        ⟨some 2, .none, true, 3, .assign (.tmp 12)⟩])))
      .skip)))
  (.seq
    (.seq
      (.region [⟨some 13, .none, true, 27, .move (.tmp 0)⟩,
        ⟨some 14, .none, true, 4, .binOp .geq 27 (.tmp 13) (.const (.int .u64 256)) 27⟩])
    (.keep [0, 2, 14]
    (.cond (.tmp 14)
      (.seq
        (.region [⟨some 15, .none, true, 27, .move (.tmp 0)⟩,
          ⟨some 16, .none, true, 27, .binOp .shr 27 (.tmp 15) (.const (.int .u64 8)) 85⟩,
          ⟨some 0, .none, true, 27, .assign (.tmp 16)⟩])
      (.keep [0, 2]
      (.region [⟨some 17, .none, true, 3, .move (.tmp 2)⟩,
        ⟨some 18, .none, true, 3, .binOp .add 3 (.tmp 17) (.const (.int .i64 8)) 3⟩,
        ⟨some 2, .none, true, 3, .assign (.tmp 18)⟩])))
      .skip)))
  (.seq
    (.region [⟨some 19, .none, true, 3, .move (.tmp 2)⟩,
      ⟨some 20, .none, true, 27, .move (.tmp 0)⟩,
      ⟨some 21, .none, true, 5, .convert 27 5 (.tmp 20)⟩,
      ⟨some 22, .none, true, 5, .index 9 (.const (.string { data := #[0, 1, 2, 2, 3, 3, 3, 3, 4, 4, 4, 4, 4, 4, 4, 4, 5, 5, 5, 5, 5, 5, 5, 5, 5, 5, 5, 5, 5, 5, 5, 5, 6, 6, 6, 6, 6, 6, 6, 6, 6, 6, 6, 6, 6, 6, 6, 6, 6, 6, 6, 6, 6, 6, 6, 6, 6, 6, 6, 6, 6, 6, 6, 6, 7, 7, 7, 7, 7, 7, 7, 7, 7, 7, 7, 7, 7, 7, 7, 7, 7, 7, 7, 7, 7, 7, 7, 7, 7, 7, 7, 7, 7, 7, 7, 7, 7, 7, 7, 7, 7, 7, 7, 7, 7, 7, 7, 7, 7, 7, 7, 7, 7, 7, 7, 7, 7, 7, 7, 7, 7, 7, 7, 7, 7, 7, 7, 7, 8, 8, 8, 8, 8, 8, 8, 8, 8, 8, 8, 8, 8, 8, 8, 8, 8, 8, 8, 8, 8, 8, 8, 8, 8, 8, 8, 8, 8, 8, 8, 8, 8, 8, 8, 8, 8, 8, 8, 8, 8, 8, 8, 8, 8, 8, 8, 8, 8, 8, 8, 8, 8, 8, 8, 8, 8, 8, 8, 8, 8, 8, 8, 8, 8, 8, 8, 8, 8, 8, 8, 8, 8, 8, 8, 8, 8, 8, 8, 8, 8, 8, 8, 8, 8, 8, 8, 8, 8, 8, 8, 8, 8, 8, 8, 8, 8, 8, 8, 8, 8, 8, 8, 8, 8, 8, 8, 8, 8, 8, 8, 8, 8, 8, 8, 8, 8, 8, 8, 8, 8, 8, 8, 8, 8, 8, 8, 8] })) (.tmp 21)⟩,
      ⟨some 23, .none, true, 3, .convert 5 3 (.tmp 22)⟩,
      ⟨some 24, .none, true, 3, .binOp .add 3 (.tmp 19) (.tmp 23) 3⟩,
      ⟨some 2, .none, true, 3, .assign (.tmp 24)⟩])
  .ret))))))
theorem t_math_bits_Len64 : FnT Tryd.prog f_math_bits_Len64 rc_math_bits_Len64 [.tmp 2] 1 := ⟨⟨[], Tryd.f104, _, Tryd.func104, rfl, by kernel_rfl, by kernel_rfl, by kernel_rfl, rfl, by decide⟩, by kernel_rfl⟩
/-- internal/strconv.bool2[int] -/
abbrev f_internal_strconv_bool2_int : FuncId := 105
def rc_internal_strconv_bool2_int : RCode :=
  (.seq
    (.region [⟨some 2, .none, true, 3, .assign (.const (.int .i64 0))⟩])
  (.keep [0]
  (.seq
    (.seq
      (.region [⟨some 3, .none, true, 4, .move (.tmp 0)⟩])
    (.keep [3]
    (.cond (.tmp 3)
      (.seq
        (.region [⟨some 2, .none, true, 3, .assign (.const (.int .i64 1))⟩])
      .ret)
      .skip)))
  (.seq
    (.region [⟨some 2, .none, true, 3, .assign (.const (.int .i64 0))⟩])
  .ret))))
theorem t_internal_strconv_bool2_int : FnT Tryd.prog f_internal_strconv_bool2_int rc_internal_strconv_bool2_int [.tmp 2] 1 := ⟨⟨[], Tryd.f105, _, Tryd.func105, rfl, by kernel_rfl, by kernel_rfl, by kernel_rfl, rfl, by decide⟩, by kernel_rfl⟩
/-- internal/strconv.isPowerOfTwo -/
abbrev f_internal_strconv_isPowerOfTwo : FuncId := 106
def rc_internal_strconv_isPowerOfTwo : RCode :=
  (.seq
    (.region [⟨some 2, .none, true, 4, .assign (.const (.bool false))⟩])
  (.keep [0]
  (.seq
    (.region [⟨some 3, .none, true, 3, .move (.tmp 0)⟩,
      ⟨some 4, .none, true, 3, .move (.tmp 0)⟩,
      ⟨some 5, .none, true, 3, .binOp .sub 3 (.tmp 4) (.const (.int .i64 1)) 3⟩,
      ⟨some 6, .none, true, 3, .binOp .and 3 (.tmp 3) (.tmp 5) 3⟩,
      ⟨some 7, .none, true, 4, .binOp .eql 3 (.tmp 6) (.const (.int .i64 0)) 3⟩,
      ⟨some 2, .none, true, 4, .assign (.tmp 7)⟩])
  .ret)))
theorem t_internal_strconv_isPowerOfTwo : FnT Tryd.prog f_internal_strconv_isPowerOfTwo rc_internal_strconv_isPowerOfTwo [.tmp 2] 1 := ⟨⟨[], Tryd.f106, _, Tryd.func106, rfl, by kernel_rfl, by kernel_rfl, by kernel_rfl, rfl, by decide⟩, by kernel_rfl⟩
/-- math/bits.TrailingZeros -/
abbrev f_math_bits_TrailingZeros : FuncId := 107
def rc_math_bits_TrailingZeros : RCode :=
  (.seq
    (.region [⟨some 2, .none, true, 3, .assign (.const (.int .i64 0))⟩])
  (.keep [0]
  (.seq
    (.cond (.const (.bool false))
      (.seq
        (.region [⟨some 3, .none, true, 85, .move (.tmp 0)⟩,
          ⟨some 4, .none, true, 136, .convert 85 136 (.tmp 3)⟩,
          ⟨some 5, .none, true, 3, .call { callee := .value (.func 115), args := #[.tmp 4], argTypes := #[136] }⟩,
          ⟨some 2, .none, true, 3, .assign (.tmp 5)⟩])
      .ret)
      .skip)
  (.keep [0]
  (.seq
    (.region [⟨some 6, .none, true, 85, .move (.tmp 0)⟩,
      ⟨some 7, .none, true, 3, .call { callee := .value (.func 116), args := #[.tmp 6], argTypes := #[27] }⟩,
      ⟨some 2, .none, true, 3, .assign (.tmp 7)⟩])
  .ret)))))
theorem t_math_bits_TrailingZeros : FnT Tryd.prog f_math_bits_TrailingZeros rc_math_bits_TrailingZeros [.tmp 2] 1 := ⟨⟨[], Tryd.f107, _, Tryd.func107, rfl, by kernel_rfl, by kernel_rfl, by kernel_rfl, rfl, by decide⟩, by kernel_rfl⟩
/-- math/bits.TrailingZeros32 -/
abbrev f_math_bits_TrailingZeros32 : FuncId := 115
def rc_math_bits_TrailingZeros32 : RCode :=
  (.seq
    (.region [⟨some 2, .none, true, 3, .assign (.const (.int .i64 0))⟩])
  (.keep [0]
  (.seq
    (.seq
      (.region [⟨some 3, .none, true, 136, .move (.tmp 0)⟩,
        ⟨some 4, .none, true, 4, .binOp .eql 136 (.tmp 3) (.const (.int .u32 0)) 136⟩])
    (.keep [0, 4]
    (.cond (.tmp 4)
      (.seq
        (.region [⟨some 2, .none, true, 3, .assign (.const (.int .i64 32))⟩])
      .ret)
      .skip)))
  (.seq
    (.region [⟨some 5, .none, true, 136, .move (.tmp 0)⟩,
      ⟨some 6, .none, true, 136, .move (.tmp 0)⟩,
      ⟨some 7, .none, true, 136, .unOp .neg 136 (.tmp 6)⟩,
      ⟨some 8, .none, true, 136, .binOp .and 136 (.tmp 5) (.tmp 7) 136⟩,
      ⟨some 9, .none, true, 136, .binOp .mul 136 (.tmp 8) (.const (.int .u32 125613361)) 136⟩,
      ⟨some 10, .none, true, 136, .binOp .shr 136 (.tmp 9) (.const (.int .u64 27)) 85⟩,
      ⟨some 11, .none, true, 0, .indexAddr 151 (.global 6) (.tmp 10)⟩,
      ⟨some 12, .none, true, 5, .load 5 (.tmp 11)⟩,
      ⟨some 13, .none, true, 3, .convert 5 3 (.tmp 12)⟩,
      ⟨some 2, .none, true, 3, .assign (.tmp 13)⟩])
  .ret))))
theorem t_math_bits_TrailingZeros32 : FnT Tryd.prog f_math_bits_TrailingZeros32 rc_math_bits_TrailingZeros32 [.tmp 2] 1 := ⟨⟨[], Tryd.f115, _, Tryd.func115, rfl, by kernel_rfl, by kernel_rfl, by kernel_rfl, rfl, by decide⟩, by kernel_rfl⟩
/-- math/bits.TrailingZeros64 -/
abbrev f_math_bits_TrailingZeros64 : FuncId := 116
def rc_math_bits_TrailingZeros64 : RCode :=
  (.seq
    (.region [⟨some 2, .none, true, 3, .assign (.const (.int .i64 0))⟩])
  (.keep [0]
  (.seq
    (.seq
      (.region [⟨some 3, .none, true, 27, .move (.tmp 0)⟩,
        ⟨some 4, .none, true, 4, .binOp .eql 27 (.tmp 3) (.const (.int .u64 0)) 27⟩])
    (.keep [0, 4]
    (.cond (.tmp 4)
      (.seq
        (.region [⟨some 2, .none, true, 3, .assign (.const (.int .i64 64))⟩])
      .ret)
      .skip)))
  (.seq
    (.region [⟨some 5, .none, true, 27, .move (.tmp 0)⟩,
      ⟨some 6, .none, true, 27, .move (.tmp 0)⟩,
      ⟨some 7, .none, true, 27, .unOp .neg 27 (.tmp 6)⟩,
      ⟨some 8, .none, true, 27, .binOp .and 27 (.tmp 5) (.tmp 7) 27⟩,
      ⟨some 9, .none, true, 27, .binOp .mul 27 (.tmp 8) (.const (.int .u64 285870213051353865)) 27⟩,
      ⟨some 10, .none, true, 27, .binOp .shr 27 (.tmp 9) (.const (.int .u64 58)) 85⟩,
      ⟨some 11, .none, true, 0, .indexAddr 152 (.global 7) (.tmp 10)⟩,
      ⟨some 12, .none, true, 5, .load 5 (.tmp 11)⟩,
      ⟨some 13, .none, true, 3, .convert 5 3 (.tmp 12)⟩,
      ⟨some 2, .none, true, 3, .assign (.tmp 13)⟩])
  .ret))))
theorem t_math_bits_TrailingZeros64 : FnT Tryd.prog f_math_bits_TrailingZeros64 rc_math_bits_TrailingZeros64 [.tmp 2] 1 := ⟨⟨[], Tryd.f116, _, Tryd.func116, rfl, by kernel_rfl, by kernel_rfl, by kernel_rfl, rfl, by decide⟩, by kernel_rfl⟩
def tab : XTab :=
  [(4, rc_reevelaw8_CapBack, [.tmp 4], 2),
   (5, rc_reevelaw8_CapCuts, [.tmp 6], 3),
   (6, rc_reevelaw8_CapKnown, [.tmp 0], 0),
   (8, rc_reevelaw8_CapLess, [.tmp 10], 5),
   (18, rc_reevelaw8_awake, [.tmp 0], 0),
   (19, rc_cap_Word, [.tmp 2, .tmp 3], 1),
   (20, rc_cap_Get, [.cell 2 34, .tmp 3], 1),
   (21, rc_cap_Good, [.tmp 2], 1),
   (22, rc_cap_Cut, [.cell 4 34], 2),
   (23, rc_cap_Stamp, [.cell 4 34, .tmp 5], 2),
   (24, rc_cap_Text, [.tmp 2], 1),
   (25, rc_cap_None, [.tmp 2], 1),
   (26, rc_cap_Less, [.tmp 4], 2),
   (44, rc_strconv_Itoa, [.tmp 2], 1),
   (45, rc_strings_Join, [.tmp 4], 2),
   (47, rc_tag_Put, [.tmp 4, .tmp 5], 2),
   (48, rc_cap_fields, [.tmp 0], 0),
   (49, rc_tag_Get, [.tmp 4], 2),
   (50, rc_tag_Rest, [.tmp 4], 2),
   (51, rc_cap_in, [.tmp 6], 3),
   (52, rc_right_Good, [.tmp 2], 1),
   (53, rc_right_Badge, [.tmp 2], 1),
   (54, rc_cap_badged, [.tmp 2], 1),
   (55, rc_right_Both, [.tmp 4], 2),
   (56, rc_right_Text, [.tmp 2], 1),
   (57, rc_right_Within, [.tmp 4], 2),
   (65, rc_internal_strconv_Itoa, [.tmp 2], 1),
   (66, rc_P_strings_Builder_Grow, [], 2),
   (67, rc_P_strings_Builder_WriteString, [.tmp 4, .tmp 5], 2),
   (68, rc_P_strings_Builder_String, [.tmp 2], 1),
   (69, rc_tag_Good, [.tmp 2], 1),
   (70, rc_tag_Field_mask, [.tmp 2], 1),
   (71, rc_tag_all, [.tmp 2, .tmp 3], 1),
   (72, rc_right_of, [.tmp 2], 1),
   (73, rc_right_Less, [.tmp 4], 2),
   (79, rc_internal_strconv_FormatInt, [.tmp 4], 2),
   (81, rc_P_strings_Builder_grow, [], 2),
   (90, rc_internal_strconv_small, [.tmp 2], 1),
   (91, rc_internal_strconv_numDigits, [.tmp 2], 1),
   (92, rc_internal_strconv_formatBase10, [], 2),
   (93, rc_internal_strconv_formatBits, [.tmp 10, .tmp 11], 5),
   (103, rc_internal_strconv_log10Pow2, [.tmp 2], 1),
   (104, rc_math_bits_Len64, [.tmp 2], 1),
   (105, rc_internal_strconv_bool2_int, [.tmp 2], 1),
   (106, rc_internal_strconv_isPowerOfTwo, [.tmp 2], 1),
   (107, rc_math_bits_TrailingZeros, [.tmp 2], 1),
   (115, rc_math_bits_TrailingZeros32, [.tmp 2], 1),
   (116, rc_math_bits_TrailingZeros64, [.tmp 2], 1)]
theorem tabOk : TabOk Tryd.prog tab :=
  .cons t_reevelaw8_CapBack <|
  .cons t_reevelaw8_CapCuts <|
  .cons t_reevelaw8_CapKnown <|
  .cons t_reevelaw8_CapLess <|
  .cons t_reevelaw8_awake <|
  .cons t_cap_Word <|
  .cons t_cap_Get <|
  .cons t_cap_Good <|
  .cons t_cap_Cut <|
  .cons t_cap_Stamp <|
  .cons t_cap_Text <|
  .cons t_cap_None <|
  .cons t_cap_Less <|
  .cons t_strconv_Itoa <|
  .cons t_strings_Join <|
  .cons t_tag_Put <|
  .cons t_cap_fields <|
  .cons t_tag_Get <|
  .cons t_tag_Rest <|
  .cons t_cap_in <|
  .cons t_right_Good <|
  .cons t_right_Badge <|
  .cons t_cap_badged <|
  .cons t_right_Both <|
  .cons t_right_Text <|
  .cons t_right_Within <|
  .cons t_internal_strconv_Itoa <|
  .cons t_P_strings_Builder_Grow <|
  .cons t_P_strings_Builder_WriteString <|
  .cons t_P_strings_Builder_String <|
  .cons t_tag_Good <|
  .cons t_tag_Field_mask <|
  .cons t_tag_all <|
  .cons t_right_of <|
  .cons t_right_Less <|
  .cons t_internal_strconv_FormatInt <|
  .cons t_P_strings_Builder_grow <|
  .cons t_internal_strconv_small <|
  .cons t_internal_strconv_numDigits <|
  .cons t_internal_strconv_formatBase10 <|
  .cons t_internal_strconv_formatBits <|
  .cons t_internal_strconv_log10Pow2 <|
  .cons t_math_bits_Len64 <|
  .cons t_internal_strconv_bool2_int <|
  .cons t_internal_strconv_isPowerOfTwo <|
  .cons t_math_bits_TrailingZeros <|
  .cons t_math_bits_TrailingZeros32 <|
  .cons t_math_bits_TrailingZeros64 <| .nil

end Go.Proofs.YtfcbhgiccgommaaDoor.F8
