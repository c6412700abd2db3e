/- Functions of the program made ready for walking, each with its proof; facts of types. Written by gen2.py. -/
import Derived.Test.YtfcbhgiccgommaaDoorProg
import Derived.Test.YtfcbhgiccgommaaDoorAbsD
set_option linter.unusedVariables false
set_option linter.unusedSectionVars false
set_option maxRecDepth 100000
namespace Go.Proofs.YtfcbhgiccgommaaDoor.F9K
open Go Go.Proofs Go.Proofs.YtfcbhgiccgommaaDoorAbs
variable [Base]
theorem hm : Tryd.prog.follows .mixedOrders = true := by kernel_rfl
/-- internal/abi.NoEscape (without a body) -/
abbrev f_internal_abi_NoEscape : FuncId := 94
/-- internal/bytealg.MakeNoZero (without a body) -/
abbrev f_internal_bytealg_MakeNoZero : FuncId := 95
/-- internal/bytealg.CountString (without a body) -/
abbrev f_internal_bytealg_CountString : FuncId := 98
/-- internal/bytealg.IndexString (without a body) -/
abbrev f_internal_bytealg_IndexString : FuncId := 110
/-- internal/bytealg.IndexByteString (without a body) -/
abbrev f_internal_bytealg_IndexByteString : FuncId := 117
abbrev T_int : TypeId := 3
theorem ts_int : tsize Tryd.prog 3 = some 1 := by kernel_rfl
theorem tb_int : tbytes Tryd.prog 3 = some 8 := by kernel_rfl
theorem ta_int : tagg Tryd.prog 3 = some false := by kernel_rfl
theorem tz_int : zeroFlat Tryd.prog 3 = some [.int .i64 0] := by kernel_rfl
theorem tv_int : tzero Tryd.prog 3 = some (.int .i64 0) := by kernel_rfl
theorem tu_int : Tryd.prog.underlying 3 = some (.int .i64) := by kernel_rfl
abbrev T_bool : TypeId := 4
theorem ts_bool : tsize Tryd.prog 4 = some 1 := by kernel_rfl
theorem tb_bool : tbytes Tryd.prog 4 = some 1 := by kernel_rfl
theorem ta_bool : tagg Tryd.prog 4 = some false := by kernel_rfl
theorem tz_bool : zeroFlat Tryd.prog 4 = some [.bool false] := by kernel_rfl
theorem tv_bool : tzero Tryd.prog 4 = some (.bool false) := by kernel_rfl
theorem tu_bool : Tryd.prog.underlying 4 = some (.bool) := by kernel_rfl
abbrev T_string : TypeId := 9
theorem ts_string : tsize Tryd.prog 9 = some 1 := by kernel_rfl
theorem tb_string : tbytes Tryd.prog 9 = some 16 := by kernel_rfl
theorem ta_string : tagg Tryd.prog 9 = some false := by kernel_rfl
theorem tz_string : zeroFlat Tryd.prog 9 = some [.string ByteArray.empty] := by kernel_rfl
theorem tv_string : tzero Tryd.prog 9 = some (.string ByteArray.empty) := by kernel_rfl
theorem tu_string : Tryd.prog.underlying 9 = some (.string) := by kernel_rfl
abbrev T_S_int : TypeId := 22
theorem ts_S_int : tsize Tryd.prog 22 = some 1 := by kernel_rfl
theorem tb_S_int : tbytes Tryd.prog 22 = some 24 := by kernel_rfl
theorem ta_S_int : tagg Tryd.prog 22 = some false := by kernel_rfl
theorem tz_S_int : zeroFlat Tryd.prog 22 = some [.slice none 0 0] := by kernel_rfl
theorem tv_S_int : tzero Tryd.prog 22 = some (.slice none 0 0) := by kernel_rfl
theorem tu_S_int : Tryd.prog.underlying 22 = some (.slice 3) := by kernel_rfl
abbrev T_path_Path : TypeId := 25
theorem ts_path_Path : tsize Tryd.prog 25 = some 1 := by kernel_rfl
theorem tb_path_Path : tbytes Tryd.prog 25 = some 24 := by kernel_rfl
theorem ta_path_Path : tagg Tryd.prog 25 = some true := by kernel_rfl
theorem tz_path_Path : zeroFlat Tryd.prog 25 = some [.slice none 0 0] := by kernel_rfl
theorem tv_path_Path : tzero Tryd.prog 25 = some (.agg #[.slice none 0 0]) := by kernel_rfl
theorem tp_path_Path : tplaces Tryd.prog 25 = some [(0, 1)] := by kernel_rfl
theorem tf_path_Path_L : tfield Tryd.prog 25 0 = some (22, 0) := by kernel_rfl
theorem tg_path_Path_L : tfield' Tryd.prog 25 0 = some (22, 0) := by kernel_rfl
abbrev T_uint64 : TypeId := 27
theorem ts_uint64 : tsize Tryd.prog 27 = some 1 := by kernel_rfl
theorem tb_uint64 : tbytes Tryd.prog 27 = some 8 := by kernel_rfl
theorem ta_uint64 : tagg Tryd.prog 27 = some false := by kernel_rfl
theorem tz_uint64 : zeroFlat Tryd.prog 27 = some [.int .u64 0] := by kernel_rfl
theorem tv_uint64 : tzero Tryd.prog 27 = some (.int .u64 0) := by kernel_rfl
theorem tu_uint64 : Tryd.prog.underlying 27 = some (.int .u64) := by kernel_rfl
abbrev T_S_string : TypeId := 65
theorem ts_S_string : tsize Tryd.prog 65 = some 1 := by kernel_rfl
theorem tb_S_string : tbytes Tryd.prog 65 = some 24 := by kernel_rfl
theorem ta_S_string : tagg Tryd.prog 65 = some false := by kernel_rfl
theorem tz_S_string : zeroFlat Tryd.prog 65 = some [.slice none 0 0] := by kernel_rfl
theorem tv_S_string : tzero Tryd.prog 65 = some (.slice none 0 0) := by kernel_rfl
theorem tu_S_string : Tryd.prog.underlying 65 = some (.slice 9) := by kernel_rfl
abbrev T_S_uint64 : TypeId := 66
theorem ts_S_uint64 : tsize Tryd.prog 66 = some 1 := by kernel_rfl
theorem tb_S_uint64 : tbytes Tryd.prog 66 = some 24 := by kernel_rfl
theorem ta_S_uint64 : tagg Tryd.prog 66 = some false := by kernel_rfl
theorem tz_S_uint64 : zeroFlat Tryd.prog 66 = some [.slice none 0 0] := by kernel_rfl
theorem tv_S_uint64 : tzero Tryd.prog 66 = some (.slice none 0 0) := by kernel_rfl
theorem tu_S_uint64 : Tryd.prog.underlying 66 = some (.slice 27) := by kernel_rfl
abbrev T_error : TypeId := 88
theorem ts_error : tsize Tryd.prog 88 = some 1 := by kernel_rfl
theorem tb_error : tbytes Tryd.prog 88 = some 16 := by kernel_rfl
theorem ta_error : tagg Tryd.prog 88 = some false := by kernel_rfl
theorem tz_error : zeroFlat Tryd.prog 88 = some [.nilIface] := by kernel_rfl
theorem tv_error : tzero Tryd.prog 88 = some (.nilIface) := by kernel_rfl
abbrev T_uint8 : TypeId := 5
theorem ts_uint8 : tsize Tryd.prog 5 = some 1 := by kernel_rfl
theorem tb_uint8 : tbytes Tryd.prog 5 = some 1 := by kernel_rfl
theorem ta_uint8 : tagg Tryd.prog 5 = some false := by kernel_rfl
theorem tz_uint8 : zeroFlat Tryd.prog 5 = some [.int .u8 0] := by kernel_rfl
theorem tv_uint8 : tzero Tryd.prog 5 = some (.int .u8 0) := by kernel_rfl
theorem tu_uint8 : Tryd.prog.underlying 5 = some (.int .u8) := by kernel_rfl
abbrev T_interface : TypeId := 20
theorem ts_interface : tsize Tryd.prog 20 = some 1 := by kernel_rfl
theorem tb_interface : tbytes Tryd.prog 20 = some 16 := by kernel_rfl
theorem ta_interface : tagg Tryd.prog 20 = some false := by kernel_rfl
theorem tz_interface : zeroFlat Tryd.prog 20 = some [.nilIface] := by kernel_rfl
theorem tv_interface : tzero Tryd.prog 20 = some (.nilIface) := by kernel_rfl
abbrev T_P_strings_Builder : TypeId := 92
theorem ts_P_strings_Builder : tsize Tryd.prog 92 = some 1 := by kernel_rfl
theorem tb_P_strings_Builder : tbytes Tryd.prog 92 = some 8 := by kernel_rfl
theorem ta_P_strings_Builder : tagg Tryd.prog 92 = some false := by kernel_rfl
theorem tz_P_strings_Builder : zeroFlat Tryd.prog 92 = some [.pointer none] := by kernel_rfl
theorem tv_P_strings_Builder : tzero Tryd.prog 92 = some (.pointer none) := by kernel_rfl
theorem tu_P_strings_Builder : Tryd.prog.underlying 92 = some (.pointer 95) := by kernel_rfl
abbrev T_S_uint8 : TypeId := 93
theorem ts_S_uint8 : tsize Tryd.prog 93 = some 1 := by kernel_rfl
theorem tb_S_uint8 : tbytes Tryd.prog 93 = some 24 := by kernel_rfl
theorem ta_S_uint8 : tagg Tryd.prog 93 = some false := by kernel_rfl
theorem tz_S_uint8 : zeroFlat Tryd.prog 93 = some [.slice none 0 0] := by kernel_rfl
theorem tv_S_uint8 : tzero Tryd.prog 93 = some (.slice none 0 0) := by kernel_rfl
theorem tu_S_uint8 : Tryd.prog.underlying 93 = some (.slice 5) := by kernel_rfl
abbrev T_strings_Builder : TypeId := 95
theorem ts_strings_Builder : tsize Tryd.prog 95 = some 2 := by kernel_rfl
theorem tb_strings_Builder : tbytes Tryd.prog 95 = some 32 := by kernel_rfl
theorem ta_strings_Builder : tagg Tryd.prog 95 = some true := by kernel_rfl
theorem tz_strings_Builder : zeroFlat Tryd.prog 95 = some [.pointer none, .slice none 0 0] := by kernel_rfl
theorem tv_strings_Builder : tzero Tryd.prog 95 = some (.agg #[.pointer none, .slice none 0 0]) := by kernel_rfl
theorem tp_strings_Builder : tplaces Tryd.prog 95 = some [(0, 1), (1, 1)] := by kernel_rfl
theorem tf_strings_Builder_addr : tfield Tryd.prog 95 0 = some (92, 0) := by kernel_rfl
theorem tg_strings_Builder_addr : tfield' Tryd.prog 95 0 = some (92, 0) := by kernel_rfl
theorem tf_strings_Builder_buf : tfield Tryd.prog 95 1 = some (93, 1) := by kernel_rfl
theorem tg_strings_Builder_buf : tfield' Tryd.prog 95 1 = some (93, 1) := by kernel_rfl
abbrev T_int64 : TypeId := 2
theorem ts_int64 : tsize Tryd.prog 2 = some 1 := by kernel_rfl
theorem tb_int64 : tbytes Tryd.prog 2 = some 8 := by kernel_rfl
theorem ta_int64 : tagg Tryd.prog 2 = some false := by kernel_rfl
theorem tz_int64 : zeroFlat Tryd.prog 2 = some [.int .i64 0] := by kernel_rfl
theorem tv_int64 : tzero Tryd.prog 2 = some (.int .i64 0) := by kernel_rfl
theorem tu_int64 : Tryd.prog.underlying 2 = some (.int .i64) := by kernel_rfl
abbrev T_P_uint8 : TypeId := 107
theorem ts_P_uint8 : tsize Tryd.prog 107 = some 1 := by kernel_rfl
theorem tb_P_uint8 : tbytes Tryd.prog 107 = some 8 := by kernel_rfl
theorem ta_P_uint8 : tagg Tryd.prog 107 = some false := by kernel_rfl
theorem tz_P_uint8 : zeroFlat Tryd.prog 107 = some [.pointer none] := by kernel_rfl
theorem tv_P_uint8 : tzero Tryd.prog 107 = some (.pointer none) := by kernel_rfl
theorem tu_P_uint8 : Tryd.prog.underlying 107 = some (.pointer 5) := by kernel_rfl
abbrev T_P_strconv_NumError : TypeId := 113
theorem ts_P_strconv_NumError : tsize Tryd.prog 113 = some 1 := by kernel_rfl
theorem tb_P_strconv_NumError : tbytes Tryd.prog 113 = some 8 := by kernel_rfl
theorem ta_P_strconv_NumError : tagg Tryd.prog 113 = some false := by kernel_rfl
theorem tz_P_strconv_NumError : zeroFlat Tryd.prog 113 = some [.pointer none] := by kernel_rfl
theorem tv_P_strconv_NumError : tzero Tryd.prog 113 = some (.pointer none) := by kernel_rfl
theorem tu_P_strconv_NumError : Tryd.prog.underlying 113 = some (.pointer 132) := by kernel_rfl
abbrev T_strconv_NumError : TypeId := 132
theorem ts_strconv_NumError : tsize Tryd.prog 132 = some 3 := by kernel_rfl
theorem tb_strconv_NumError : tbytes Tryd.prog 132 = some 48 := by kernel_rfl
theorem ta_strconv_NumError : tagg Tryd.prog 132 = some true := by kernel_rfl
theorem tz_strconv_NumError : zeroFlat Tryd.prog 132 = some [.string ByteArray.empty, .string ByteArray.empty, .nilIface] := by kernel_rfl
theorem tv_strconv_NumError : tzero Tryd.prog 132 = some (.agg #[.string ByteArray.empty, .string ByteArray.empty, .nilIface]) := by kernel_rfl
theorem tp_strconv_NumError : tplaces Tryd.prog 132 = some [(0, 1), (1, 1), (2, 1)] := by kernel_rfl
theorem tf_strconv_NumError_Func : tfield Tryd.prog 132 0 = some (9, 0) := by kernel_rfl
theorem tg_strconv_NumError_Func : tfield' Tryd.prog 132 0 = some (9, 0) := by kernel_rfl
theorem tf_strconv_NumError_Num : tfield Tryd.prog 132 1 = some (9, 1) := by kernel_rfl
theorem tg_strconv_NumError_Num : tfield' Tryd.prog 132 1 = some (9, 1) := by kernel_rfl
theorem tf_strconv_NumError_Err : tfield Tryd.prog 132 2 = some (88, 2) := by kernel_rfl
theorem tg_strconv_NumError_Err : tfield' Tryd.prog 132 2 = some (88, 2) := by kernel_rfl
abbrev T_A24_uint8 : TypeId := 116
theorem te_A24_uint8 : eqOk Tryd.prog 116 = some [.int .u8, .int .u8, .int .u8, .int .u8, .int .u8, .int .u8, .int .u8, .int .u8, .int .u8, .int .u8, .int .u8, .int .u8, .int .u8, .int .u8, .int .u8, .int .u8, .int .u8, .int .u8, .int .u8, .int .u8, .int .u8, .int .u8, .int .u8, .int .u8] := by kernel_rfl
theorem ts_A24_uint8 : tsize Tryd.prog 116 = some 24 := by kernel_rfl
theorem tb_A24_uint8 : tbytes Tryd.prog 116 = some 24 := by kernel_rfl
theorem ta_A24_uint8 : tagg Tryd.prog 116 = some true := by kernel_rfl
theorem tz_A24_uint8 : zeroFlat Tryd.prog 116 = some [.int .u8 0, .int .u8 0, .int .u8 0, .int .u8 0, .int .u8 0, .int .u8 0, .int .u8 0, .int .u8 0, .int .u8 0, .int .u8 0, .int .u8 0, .int .u8 0, .int .u8 0, .int .u8 0, .int .u8 0, .int .u8 0, .int .u8 0, .int .u8 0, .int .u8 0, .int .u8 0, .int .u8 0, .int .u8 0, .int .u8 0, .int .u8 0] := by kernel_rfl
theorem tv_A24_uint8 : tzero Tryd.prog 116 = some (.agg #[.int .u8 0, .int .u8 0, .int .u8 0, .int .u8 0, .int .u8 0, .int .u8 0, .int .u8 0, .int .u8 0, .int .u8 0, .int .u8 0, .int .u8 0, .int .u8 0, .int .u8 0, .int .u8 0, .int .u8 0, .int .u8 0, .int .u8 0, .int .u8 0, .int .u8 0, .int .u8 0, .int .u8 0, .int .u8 0, .int .u8 0, .int .u8 0]) := by kernel_rfl
theorem tu_A24_uint8 : Tryd.prog.underlying 116 = some (.array 24 5) := by kernel_rfl
abbrev T_int32 : TypeId := 21
theorem ts_int32 : tsize Tryd.prog 21 = some 1 := by kernel_rfl
theorem tb_int32 : tbytes Tryd.prog 21 = some 4 := by kernel_rfl
theorem ta_int32 : tagg Tryd.prog 21 = some false := by kernel_rfl
theorem tz_int32 : zeroFlat Tryd.prog 21 = some [.int .i32 0] := by kernel_rfl
theorem tv_int32 : tzero Tryd.prog 21 = some (.int .i32 0) := by kernel_rfl
theorem tu_int32 : Tryd.prog.underlying 21 = some (.int .i32) := by kernel_rfl
abbrev T_uint : TypeId := 85
theorem ts_uint : tsize Tryd.prog 85 = some 1 := by kernel_rfl
theorem tb_uint : tbytes Tryd.prog 85 = some 8 := by kernel_rfl
theorem ta_uint : tagg Tryd.prog 85 = some false := by kernel_rfl
theorem tz_uint : zeroFlat Tryd.prog 85 = some [.int .u64 0] := by kernel_rfl
theorem tv_uint : tzero Tryd.prog 85 = some (.int .u64 0) := by kernel_rfl
theorem tu_uint : Tryd.prog.underlying 85 = some (.int .u64) := by kernel_rfl
abbrev T_A20_uint64 : TypeId := 135
theorem te_A20_uint64 : eqOk Tryd.prog 135 = some [.int .u64, .int .u64, .int .u64, .int .u64, .int .u64, .int .u64, .int .u64, .int .u64, .int .u64, .int .u64, .int .u64, .int .u64, .int .u64, .int .u64, .int .u64, .int .u64, .int .u64, .int .u64, .int .u64, .int .u64] := by kernel_rfl
theorem ts_A20_uint64 : tsize Tryd.prog 135 = some 20 := by kernel_rfl
theorem tb_A20_uint64 : tbytes Tryd.prog 135 = some 160 := by kernel_rfl
theorem ta_A20_uint64 : tagg Tryd.prog 135 = some true := by kernel_rfl
theorem tz_A20_uint64 : zeroFlat Tryd.prog 135 = some [.int .u64 0, .int .u64 0, .int .u64 0, .int .u64 0, .int .u64 0, .int .u64 0, .int .u64 0, .int .u64 0, .int .u64 0, .int .u64 0, .int .u64 0, .int .u64 0, .int .u64 0, .int .u64 0, .int .u64 0, .int .u64 0, .int .u64 0, .int .u64 0, .int .u64 0, .int .u64 0] := by kernel_rfl
theorem tv_A20_uint64 : tzero Tryd.prog 135 = some (.agg #[.int .u64 0, .int .u64 0, .int .u64 0, .int .u64 0, .int .u64 0, .int .u64 0, .int .u64 0, .int .u64 0, .int .u64 0, .int .u64 0, .int .u64 0, .int .u64 0, .int .u64 0, .int .u64 0, .int .u64 0, .int .u64 0, .int .u64 0, .int .u64 0, .int .u64 0, .int .u64 0]) := by kernel_rfl
theorem tu_A20_uint64 : Tryd.prog.underlying 135 = some (.array 20 27) := by kernel_rfl
abbrev T_uint32 : TypeId := 136
theorem ts_uint32 : tsize Tryd.prog 136 = some 1 := by kernel_rfl
theorem tb_uint32 : tbytes Tryd.prog 136 = some 4 := by kernel_rfl
theorem ta_uint32 : tagg Tryd.prog 136 = some false := by kernel_rfl
theorem tz_uint32 : zeroFlat Tryd.prog 136 = some [.int .u32 0] := by kernel_rfl
theorem tv_uint32 : tzero Tryd.prog 136 = some (.int .u32 0) := by kernel_rfl
theorem tu_uint32 : Tryd.prog.underlying 136 = some (.int .u32) := by kernel_rfl
abbrev T_A65_uint8 : TypeId := 137
theorem ts_A65_uint8 : tsize Tryd.prog 137 = some 65 := by kernel_rfl
theorem tb_A65_uint8 : tbytes Tryd.prog 137 = some 65 := by kernel_rfl
theorem ta_A65_uint8 : tagg Tryd.prog 137 = some true := by kernel_rfl
theorem tu_A65_uint8 : Tryd.prog.underlying 137 = some (.array 65 5) := by kernel_rfl
abbrev T_P_errors_errorString : TypeId := 141
theorem ts_P_errors_errorString : tsize Tryd.prog 141 = some 1 := by kernel_rfl
theorem tb_P_errors_errorString : tbytes Tryd.prog 141 = some 8 := by kernel_rfl
theorem ta_P_errors_errorString : tagg Tryd.prog 141 = some false := by kernel_rfl
theorem tz_P_errors_errorString : zeroFlat Tryd.prog 141 = some [.pointer none] := by kernel_rfl
theorem tv_P_errors_errorString : tzero Tryd.prog 141 = some (.pointer none) := by kernel_rfl
theorem tu_P_errors_errorString : Tryd.prog.underlying 141 = some (.pointer 143) := by kernel_rfl
abbrev T_errors_errorString : TypeId := 143
theorem te_errors_errorString : eqOk Tryd.prog 143 = some [.str] := by kernel_rfl
theorem ts_errors_errorString : tsize Tryd.prog 143 = some 1 := by kernel_rfl
theorem tb_errors_errorString : tbytes Tryd.prog 143 = some 16 := by kernel_rfl
theorem ta_errors_errorString : tagg Tryd.prog 143 = some true := by kernel_rfl
theorem tz_errors_errorString : zeroFlat Tryd.prog 143 = some [.string ByteArray.empty] := by kernel_rfl
theorem tv_errors_errorString : tzero Tryd.prog 143 = some (.agg #[.string ByteArray.empty]) := by kernel_rfl
theorem tp_errors_errorString : tplaces Tryd.prog 143 = some [(0, 1)] := by kernel_rfl
theorem tf_errors_errorString_s : tfield Tryd.prog 143 0 = some (9, 0) := by kernel_rfl
theorem tg_errors_errorString_s : tfield' Tryd.prog 143 0 = some (9, 0) := by kernel_rfl
abbrev T_A256_uint8 : TypeId := 145
theorem ts_A256_uint8 : tsize Tryd.prog 145 = some 256 := by kernel_rfl
theorem tb_A256_uint8 : tbytes Tryd.prog 145 = some 256 := by kernel_rfl
theorem ta_A256_uint8 : tagg Tryd.prog 145 = some true := by kernel_rfl
theorem tu_A256_uint8 : Tryd.prog.underlying 145 = some (.array 256 5) := by kernel_rfl
abbrev T_unicode_utf8_acceptRange : TypeId := 147
theorem te_unicode_utf8_acceptRange : eqOk Tryd.prog 147 = some [.int .u8, .int .u8] := by kernel_rfl
theorem ts_unicode_utf8_acceptRange : tsize Tryd.prog 147 = some 2 := by kernel_rfl
theorem tb_unicode_utf8_acceptRange : tbytes Tryd.prog 147 = some 2 := by kernel_rfl
theorem ta_unicode_utf8_acceptRange : tagg Tryd.prog 147 = some true := by kernel_rfl
theorem tz_unicode_utf8_acceptRange : zeroFlat Tryd.prog 147 = some [.int .u8 0, .int .u8 0] := by kernel_rfl
theorem tv_unicode_utf8_acceptRange : tzero Tryd.prog 147 = some (.agg #[.int .u8 0, .int .u8 0]) := by kernel_rfl
theorem tp_unicode_utf8_acceptRange : tplaces Tryd.prog 147 = some [(0, 1), (1, 1)] := by kernel_rfl
theorem tf_unicode_utf8_acceptRange_lo : tfield Tryd.prog 147 0 = some (5, 0) := by kernel_rfl
theorem tg_unicode_utf8_acceptRange_lo : tfield' Tryd.prog 147 0 = some (5, 0) := by kernel_rfl
theorem tf_unicode_utf8_acceptRange_hi : tfield Tryd.prog 147 1 = some (5, 1) := by kernel_rfl
theorem tg_unicode_utf8_acceptRange_hi : tfield' Tryd.prog 147 1 = some (5, 1) := by kernel_rfl
abbrev T_A16_utf8_acceptRange : TypeId := 148
theorem te_A16_utf8_acceptRange : eqOk Tryd.prog 148 = some [.int .u8, .int .u8, .int .u8, .int .u8, .int .u8, .int .u8, .int .u8, .int .u8, .int .u8, .int .u8, .int .u8, .int .u8, .int .u8, .int .u8, .int .u8, .int .u8, .int .u8, .int .u8, .int .u8, .int .u8, .int .u8, .int .u8, .int .u8, .int .u8, .int .u8, .int .u8, .int .u8, .int .u8, .int .u8, .int .u8, .int .u8, .int .u8] := by kernel_rfl
theorem ts_A16_utf8_acceptRange : tsize Tryd.prog 148 = some 32 := by kernel_rfl
theorem tb_A16_utf8_acceptRange : tbytes Tryd.prog 148 = some 32 := by kernel_rfl
theorem ta_A16_utf8_acceptRange : tagg Tryd.prog 148 = some true := by kernel_rfl
theorem tz_A16_utf8_acceptRange : zeroFlat Tryd.prog 148 = some [.int .u8 0, .int .u8 0, .int .u8 0, .int .u8 0, .int .u8 0, .int .u8 0, .int .u8 0, .int .u8 0, .int .u8 0, .int .u8 0, .int .u8 0, .int .u8 0, .int .u8 0, .int .u8 0, .int .u8 0, .int .u8 0, .int .u8 0, .int .u8 0, .int .u8 0, .int .u8 0, .int .u8 0, .int .u8 0, .int .u8 0, .int .u8 0, .int .u8 0, .int .u8 0, .int .u8 0, .int .u8 0, .int .u8 0, .int .u8 0, .int .u8 0, .int .u8 0] := by kernel_rfl
theorem tv_A16_utf8_acceptRange : tzero Tryd.prog 148 = some (.agg #[.int .u8 0, .int .u8 0, .int .u8 0, .int .u8 0, .int .u8 0, .int .u8 0, .int .u8 0, .int .u8 0, .int .u8 0, .int .u8 0, .int .u8 0, .int .u8 0, .int .u8 0, .int .u8 0, .int .u8 0, .int .u8 0, .int .u8 0, .int .u8 0, .int .u8 0, .int .u8 0, .int .u8 0, .int .u8 0, .int .u8 0, .int .u8 0, .int .u8 0, .int .u8 0, .int .u8 0, .int .u8 0, .int .u8 0, .int .u8 0, .int .u8 0, .int .u8 0]) := by kernel_rfl
theorem tu_A16_utf8_acceptRange : Tryd.prog.underlying 148 = some (.array 16 147) := by kernel_rfl
abbrev T_A32_uint8 : TypeId := 151
theorem te_A32_uint8 : eqOk Tryd.prog 151 = some [.int .u8, .int .u8, .int .u8, .int .u8, .int .u8, .int .u8, .int .u8, .int .u8, .int .u8, .int .u8, .int .u8, .int .u8, .int .u8, .int .u8, .int .u8, .int .u8, .int .u8, .int .u8, .int .u8, .int .u8, .int .u8, .int .u8, .int .u8, .int .u8, .int .u8, .int .u8, .int .u8, .int .u8, .int .u8, .int .u8, .int .u8, .int .u8] := by kernel_rfl
theorem ts_A32_uint8 : tsize Tryd.prog 151 = some 32 := by kernel_rfl
theorem tb_A32_uint8 : tbytes Tryd.prog 151 = some 32 := by kernel_rfl
theorem ta_A32_uint8 : tagg Tryd.prog 151 = some true := by kernel_rfl
theorem tz_A32_uint8 : zeroFlat Tryd.prog 151 = some [.int .u8 0, .int .u8 0, .int .u8 0, .int .u8 0, .int .u8 0, .int .u8 0, .int .u8 0, .int .u8 0, .int .u8 0, .int .u8 0, .int .u8 0, .int .u8 0, .int .u8 0, .int .u8 0, .int .u8 0, .int .u8 0, .int .u8 0, .int .u8 0, .int .u8 0, .int .u8 0, .int .u8 0, .int .u8 0, .int .u8 0, .int .u8 0, .int .u8 0, .int .u8 0, .int .u8 0, .int .u8 0, .int .u8 0, .int .u8 0, .int .u8 0, .int .u8 0] := by kernel_rfl
theorem tv_A32_uint8 : tzero Tryd.prog 151 = some (.agg #[.int .u8 0, .int .u8 0, .int .u8 0, .int .u8 0, .int .u8 0, .int .u8 0, .int .u8 0, .int .u8 0, .int .u8 0, .int .u8 0, .int .u8 0, .int .u8 0, .int .u8 0, .int .u8 0, .int .u8 0, .int .u8 0, .int .u8 0, .int .u8 0, .int .u8 0, .int .u8 0, .int .u8 0, .int .u8 0, .int .u8 0, .int .u8 0, .int .u8 0, .int .u8 0, .int .u8 0, .int .u8 0, .int .u8 0, .int .u8 0, .int .u8 0, .int .u8 0]) := by kernel_rfl
theorem tu_A32_uint8 : Tryd.prog.underlying 151 = some (.array 32 5) := by kernel_rfl
abbrev T_A64_uint8 : TypeId := 152
theorem ts_A64_uint8 : tsize Tryd.prog 152 = some 64 := by kernel_rfl
theorem tb_A64_uint8 : tbytes Tryd.prog 152 = some 64 := by kernel_rfl
theorem ta_A64_uint8 : tagg Tryd.prog 152 = some true := by kernel_rfl
theorem tu_A64_uint8 : Tryd.prog.underlying 152 = some (.array 64 5) := by kernel_rfl
theorem bl_S_int : ∀ (ty : TypeId) (ev : Operand → Value) (g : AMem) (n : Nat) (len : Nat) (parts : Array (Nat × Operand)), len * 1 ≤ 16777216 → aOp Tryd.prog ty ev g n (.buildSlice 22 len parts) = (fillS 1 (zeroRow [.int .i64 0] len) (parts.toList.map fun p => (p.1, ev p.2))).map fun cs => (.slice (some ⟨n, 0, none⟩) len 1, .new (.row cs true)) := fun ty ev g n len parts hb => aOp_buildL tu_S_int tz_int ts_int rfl ty ev g n len parts hb
theorem ap_S_int : ∀ (g : AMem) (n : Nat) (s x : Value), aAppend Tryd.prog g n 22 s x = appR g n 0 8 s (aRead g 1 x) := inst_append tu_S_int ts_int tb_int tv_int rfl
theorem mk_S_int : ∀ (n : Nat) (k k' : IntKind) (l c : Int), aMake Tryd.prog n 22 (.int k l) (.int k' c) = if 0 ≤ l ∧ l ≤ c ∧ c ≤ 70368744177664 ∧ 8 * c.toNat ≤ 70368744177664 then some (.slice (some ⟨n, 0, none⟩) l.toNat 1, .new (.row (zeroRow [.int .i64 0] l.toNat) true)) else none := inst_make tu_S_int ts_int tb_int tv_int rfl rfl
theorem sl_S_int : ∀ (ty : TypeId) (ev : Operand → Value) (g : AMem) (n : Nat) (x : Operand) (lo hi : Option Operand), aOp Tryd.prog ty ev g n (.slice 22 x lo hi none) = (slR 1 (ev x) (lo.map ev) (hi.map ev)).map fun v => (v, .none) := aOp_sliceS tu_S_int ts_int
theorem cp_S_int : ∀ (g : AMem) (d s : Value), aCopy Tryd.prog g 22 d s = cpR g 1 d (aRead g 1 s) := aCopy_eq tu_S_int ts_int
theorem bs_path_Path : ∀ (ty : TypeId) (ev : Operand → Value) (g : AMem) (n : Nat) (parts : Array (Nat × Operand)), aOp Tryd.prog ty ev g n (.build 25 parts) = (fillP [(0, 1)] [.slice none 0 0] (parts.toList.map fun p => (p.1, ev p.2))).map fun cs => (.agg cs.toArray, .none) := aOp_buildS tz_path_Path tp_path_Path
theorem bl_S_string : ∀ (ty : TypeId) (ev : Operand → Value) (g : AMem) (n : Nat) (len : Nat) (parts : Array (Nat × Operand)), len * 1 ≤ 16777216 → aOp Tryd.prog ty ev g n (.buildSlice 65 len parts) = (fillS 1 (zeroRow [.string ByteArray.empty] len) (parts.toList.map fun p => (p.1, ev p.2))).map fun cs => (.slice (some ⟨n, 0, none⟩) len 1, .new (.row cs true)) := fun ty ev g n len parts hb => aOp_buildL tu_S_string tz_string ts_string rfl ty ev g n len parts hb
theorem ap_S_string : ∀ (g : AMem) (n : Nat) (s x : Value), aAppend Tryd.prog g n 65 s x = appR g n 0 16 s (aRead g 1 x) := inst_append tu_S_string ts_string tb_string tv_string rfl
theorem mk_S_string : ∀ (n : Nat) (k k' : IntKind) (l c : Int), aMake Tryd.prog n 65 (.int k l) (.int k' c) = if 0 ≤ l ∧ l ≤ c ∧ c ≤ 70368744177664 ∧ 16 * c.toNat ≤ 70368744177664 then some (.slice (some ⟨n, 0, none⟩) l.toNat 1, .new (.row (zeroRow [.string ByteArray.empty] l.toNat) true)) else none := inst_make tu_S_string ts_string tb_string tv_string rfl rfl
theorem sl_S_string : ∀ (ty : TypeId) (ev : Operand → Value) (g : AMem) (n : Nat) (x : Operand) (lo hi : Option Operand), aOp Tryd.prog ty ev g n (.slice 65 x lo hi none) = (slR 1 (ev x) (lo.map ev) (hi.map ev)).map fun v => (v, .none) := aOp_sliceS tu_S_string ts_string
theorem cp_S_string : ∀ (g : AMem) (d s : Value), aCopy Tryd.prog g 65 d s = cpR g 1 d (aRead g 1 s) := aCopy_eq tu_S_string ts_string
theorem bl_S_uint64 : ∀ (ty : TypeId) (ev : Operand → Value) (g : AMem) (n : Nat) (len : Nat) (parts : Array (Nat × Operand)), len * 1 ≤ 16777216 → aOp Tryd.prog ty ev g n (.buildSlice 66 len parts) = (fillS 1 (zeroRow [.int .u64 0] len) (parts.toList.map fun p => (p.1, ev p.2))).map fun cs => (.slice (some ⟨n, 0, none⟩) len 1, .new (.row cs true)) := fun ty ev g n len parts hb => aOp_buildL tu_S_uint64 tz_uint64 ts_uint64 rfl ty ev g n len parts hb
theorem ap_S_uint64 : ∀ (g : AMem) (n : Nat) (s x : Value), aAppend Tryd.prog g n 66 s x = appR g n 0 8 s (aRead g 1 x) := inst_append tu_S_uint64 ts_uint64 tb_uint64 tv_uint64 rfl
theorem mk_S_uint64 : ∀ (n : Nat) (k k' : IntKind) (l c : Int), aMake Tryd.prog n 66 (.int k l) (.int k' c) = if 0 ≤ l ∧ l ≤ c ∧ c ≤ 70368744177664 ∧ 8 * c.toNat ≤ 70368744177664 then some (.slice (some ⟨n, 0, none⟩) l.toNat 1, .new (.row (zeroRow [.int .u64 0] l.toNat) true)) else none := inst_make tu_S_uint64 ts_uint64 tb_uint64 tv_uint64 rfl rfl
theorem sl_S_uint64 : ∀ (ty : TypeId) (ev : Operand → Value) (g : AMem) (n : Nat) (x : Operand) (lo hi : Option Operand), aOp Tryd.prog ty ev g n (.slice 66 x lo hi none) = (slR 1 (ev x) (lo.map ev) (hi.map ev)).map fun v => (v, .none) := aOp_sliceS tu_S_uint64 ts_uint64
theorem cp_S_uint64 : ∀ (g : AMem) (d s : Value), aCopy Tryd.prog g 66 d s = cpR g 1 d (aRead g 1 s) := aCopy_eq tu_S_uint64 ts_uint64
theorem bl_S_uint8 : ∀ (ty : TypeId) (ev : Operand → Value) (g : AMem) (n : Nat) (len : Nat) (parts : Array (Nat × Operand)), len * 1 ≤ 16777216 → aOp Tryd.prog ty ev g n (.buildSlice 93 len parts) = (fillS 1 (zeroRow [.int .u8 0] len) (parts.toList.map fun p => (p.1, ev p.2))).map fun cs => (.slice (some ⟨n, 0, none⟩) len 1, .new (.row cs true)) := fun ty ev g n len parts hb => aOp_buildL tu_S_uint8 tz_uint8 ts_uint8 rfl ty ev g n len parts hb
theorem ap_S_uint8 : ∀ (g : AMem) (n : Nat) (s x : Value), aAppend Tryd.prog g n 93 s x = appR g n 0 1 s (aRead g 1 x) := inst_append tu_S_uint8 ts_uint8 tb_uint8 tv_uint8 rfl
theorem mk_S_uint8 : ∀ (n : Nat) (k k' : IntKind) (l c : Int), aMake Tryd.prog n 93 (.int k l) (.int k' c) = if 0 ≤ l ∧ l ≤ c ∧ c ≤ 70368744177664 ∧ 1 * c.toNat ≤ 70368744177664 then some (.slice (some ⟨n, 0, none⟩) l.toNat 1, .new (.row (zeroRow [.int .u8 0] l.toNat) true)) else none := inst_make tu_S_uint8 ts_uint8 tb_uint8 tv_uint8 rfl rfl
theorem sl_S_uint8 : ∀ (ty : TypeId) (ev : Operand → Value) (g : AMem) (n : Nat) (x : Operand) (lo hi : Option Operand), aOp Tryd.prog ty ev g n (.slice 93 x lo hi none) = (slR 1 (ev x) (lo.map ev) (hi.map ev)).map fun v => (v, .none) := aOp_sliceS tu_S_uint8 ts_uint8
theorem cp_S_uint8 : ∀ (g : AMem) (d s : Value), aCopy Tryd.prog g 93 d s = cpR g 1 d (aRead g 1 s) := aCopy_eq tu_S_uint8 ts_uint8
theorem bs_strings_Builder : ∀ (ty : TypeId) (ev : Operand → Value) (g : AMem) (n : Nat) (parts : Array (Nat × Operand)), aOp Tryd.prog ty ev g n (.build 95 parts) = (fillP [(0, 1), (1, 1)] [.pointer none, .slice none 0 0] (parts.toList.map fun p => (p.1, ev p.2))).map fun cs => (.agg cs.toArray, .none) := aOp_buildS tz_strings_Builder tp_strings_Builder
theorem bs_strconv_NumError : ∀ (ty : TypeId) (ev : Operand → Value) (g : AMem) (n : Nat) (parts : Array (Nat × Operand)), aOp Tryd.prog ty ev g n (.build 132 parts) = (fillP [(0, 1), (1, 1), (2, 1)] [.string ByteArray.empty, .string ByteArray.empty, .nilIface] (parts.toList.map fun p => (p.1, ev p.2))).map fun cs => (.agg cs.toArray, .none) := aOp_buildS tz_strconv_NumError tp_strconv_NumError
theorem beq_A24_uint8 : ∀ (xo yo : Operand) (xs ys : List Value), fitsB [.int .u8, .int .u8, .int .u8, .int .u8, .int .u8, .int .u8, .int .u8, .int .u8, .int .u8, .int .u8, .int .u8, .int .u8, .int .u8, .int .u8, .int .u8, .int .u8, .int .u8, .int .u8, .int .u8, .int .u8, .int .u8, .int .u8, .int .u8, .int .u8] xs = true → fitsB [.int .u8, .int .u8, .int .u8, .int .u8, .int .u8, .int .u8, .int .u8, .int .u8, .int .u8, .int .u8, .int .u8, .int .u8, .int .u8, .int .u8, .int .u8, .int .u8, .int .u8, .int .u8, .int .u8, .int .u8, .int .u8, .int .u8, .int .u8, .int .u8] ys = true → aBin Tryd.prog .eql 116 xo yo (.agg xs.toArray) (.agg ys.toArray) = some (.bool (cellsEq xs ys)) := fun _ _ _ _ hx hy => bin_eql_agg te_A24_uint8 ta_A24_uint8 hx hy
theorem bne_A24_uint8 : ∀ (xo yo : Operand) (xs ys : List Value), fitsB [.int .u8, .int .u8, .int .u8, .int .u8, .int .u8, .int .u8, .int .u8, .int .u8, .int .u8, .int .u8, .int .u8, .int .u8, .int .u8, .int .u8, .int .u8, .int .u8, .int .u8, .int .u8, .int .u8, .int .u8, .int .u8, .int .u8, .int .u8, .int .u8] xs = true → fitsB [.int .u8, .int .u8, .int .u8, .int .u8, .int .u8, .int .u8, .int .u8, .int .u8, .int .u8, .int .u8, .int .u8, .int .u8, .int .u8, .int .u8, .int .u8, .int .u8, .int .u8, .int .u8, .int .u8, .int .u8, .int .u8, .int .u8, .int .u8, .int .u8] ys = true → aBin Tryd.prog .neq 116 xo yo (.agg xs.toArray) (.agg ys.toArray) = some (.bool (!cellsEq xs ys)) := fun _ _ _ _ hx hy => bin_neq_agg te_A24_uint8 ta_A24_uint8 hx hy
theorem bs_A24_uint8 : ∀ (ty : TypeId) (ev : Operand → Value) (g : AMem) (n : Nat) (parts : Array (Nat × Operand)), aOp Tryd.prog ty ev g n (.build 116 parts) = (fillS 1 [.int .u8 0, .int .u8 0, .int .u8 0, .int .u8 0, .int .u8 0, .int .u8 0, .int .u8 0, .int .u8 0, .int .u8 0, .int .u8 0, .int .u8 0, .int .u8 0, .int .u8 0, .int .u8 0, .int .u8 0, .int .u8 0, .int .u8 0, .int .u8 0, .int .u8 0, .int .u8 0, .int .u8 0, .int .u8 0, .int .u8 0, .int .u8 0] (parts.toList.map fun p => (p.1, ev p.2))).map fun cs => (.agg cs.toArray, .none) := aOp_buildA tz_A24_uint8 tu_A24_uint8 ts_uint8
theorem ia_A24_uint8 : ∀ (b o : Nat) (i : Int), aIndexAddrR Tryd.prog (some (.array 24 5)) (.pointer (some ⟨b, o, none⟩)) i = if 0 ≤ i ∧ i < (24 : Nat) then some (.pointer (some ⟨b, o + i.toNat * 1, none⟩)) else none := fun b o i => aIndexAddrR_array i ts_uint8
theorem sl_A24_uint8 : ∀ (ty : TypeId) (ev : Operand → Value) (g : AMem) (n : Nat) (x : Operand), aOp Tryd.prog ty ev g n (.slice 116 x none none none) = (saR g 24 1 (ev x)).map fun v => (v, .none) := aOp_sliceA tu_A24_uint8 ts_uint8
theorem beq_A20_uint64 : ∀ (xo yo : Operand) (xs ys : List Value), fitsB [.int .u64, .int .u64, .int .u64, .int .u64, .int .u64, .int .u64, .int .u64, .int .u64, .int .u64, .int .u64, .int .u64, .int .u64, .int .u64, .int .u64, .int .u64, .int .u64, .int .u64, .int .u64, .int .u64, .int .u64] xs = true → fitsB [.int .u64, .int .u64, .int .u64, .int .u64, .int .u64, .int .u64, .int .u64, .int .u64, .int .u64, .int .u64, .int .u64, .int .u64, .int .u64, .int .u64, .int .u64, .int .u64, .int .u64, .int .u64, .int .u64, .int .u64] ys = true → aBin Tryd.prog .eql 135 xo yo (.agg xs.toArray) (.agg ys.toArray) = some (.bool (cellsEq xs ys)) := fun _ _ _ _ hx hy => bin_eql_agg te_A20_uint64 ta_A20_uint64 hx hy
theorem bne_A20_uint64 : ∀ (xo yo : Operand) (xs ys : List Value), fitsB [.int .u64, .int .u64, .int .u64, .int .u64, .int .u64, .int .u64, .int .u64, .int .u64, .int .u64, .int .u64, .int .u64, .int .u64, .int .u64, .int .u64, .int .u64, .int .u64, .int .u64, .int .u64, .int .u64, .int .u64] xs = true → fitsB [.int .u64, .int .u64, .int .u64, .int .u64, .int .u64, .int .u64, .int .u64, .int .u64, .int .u64, .int .u64, .int .u64, .int .u64, .int .u64, .int .u64, .int .u64, .int .u64, .int .u64, .int .u64, .int .u64, .int .u64] ys = true → aBin Tryd.prog .neq 135 xo yo (.agg xs.toArray) (.agg ys.toArray) = some (.bool (!cellsEq xs ys)) := fun _ _ _ _ hx hy => bin_neq_agg te_A20_uint64 ta_A20_uint64 hx hy
theorem bs_A20_uint64 : ∀ (ty : TypeId) (ev : Operand → Value) (g : AMem) (n : Nat) (parts : Array (Nat × Operand)), aOp Tryd.prog ty ev g n (.build 135 parts) = (fillS 1 [.int .u64 0, .int .u64 0, .int .u64 0, .int .u64 0, .int .u64 0, .int .u64 0, .int .u64 0, .int .u64 0, .int .u64 0, .int .u64 0, .int .u64 0, .int .u64 0, .int .u64 0, .int .u64 0, .int .u64 0, .int .u64 0, .int .u64 0, .int .u64 0, .int .u64 0, .int .u64 0] (parts.toList.map fun p => (p.1, ev p.2))).map fun cs => (.agg cs.toArray, .none) := aOp_buildA tz_A20_uint64 tu_A20_uint64 ts_uint64
theorem ia_A20_uint64 : ∀ (b o : Nat) (i : Int), aIndexAddrR Tryd.prog (some (.array 20 27)) (.pointer (some ⟨b, o, none⟩)) i = if 0 ≤ i ∧ i < (20 : Nat) then some (.pointer (some ⟨b, o + i.toNat * 1, none⟩)) else none := fun b o i => aIndexAddrR_array i ts_uint64
theorem sl_A20_uint64 : ∀ (ty : TypeId) (ev : Operand → Value) (g : AMem) (n : Nat) (x : Operand), aOp Tryd.prog ty ev g n (.slice 135 x none none none) = (saR g 20 1 (ev x)).map fun v => (v, .none) := aOp_sliceA tu_A20_uint64 ts_uint64
theorem ia_A65_uint8 : ∀ (b o : Nat) (i : Int), aIndexAddrR Tryd.prog (some (.array 65 5)) (.pointer (some ⟨b, o, none⟩)) i = if 0 ≤ i ∧ i < (65 : Nat) then some (.pointer (some ⟨b, o + i.toNat * 1, none⟩)) else none := fun b o i => aIndexAddrR_array i ts_uint8
theorem sl_A65_uint8 : ∀ (ty : TypeId) (ev : Operand → Value) (g : AMem) (n : Nat) (x : Operand), aOp Tryd.prog ty ev g n (.slice 137 x none none none) = (saR g 65 1 (ev x)).map fun v => (v, .none) := aOp_sliceA tu_A65_uint8 ts_uint8
theorem beq_errors_errorString : ∀ (xo yo : Operand) (xs ys : List Value), fitsB [.str] xs = true → fitsB [.str] ys = true → aBin Tryd.prog .eql 143 xo yo (.agg xs.toArray) (.agg ys.toArray) = some (.bool (cellsEq xs ys)) := fun _ _ _ _ hx hy => bin_eql_agg te_errors_errorString ta_errors_errorString hx hy
theorem bne_errors_errorString : ∀ (xo yo : Operand) (xs ys : List Value), fitsB [.str] xs = true → fitsB [.str] ys = true → aBin Tryd.prog .neq 143 xo yo (.agg xs.toArray) (.agg ys.toArray) = some (.bool (!cellsEq xs ys)) := fun _ _ _ _ hx hy => bin_neq_agg te_errors_errorString ta_errors_errorString hx hy
theorem bs_errors_errorString : ∀ (ty : TypeId) (ev : Operand → Value) (g : AMem) (n : Nat) (parts : Array (Nat × Operand)), aOp Tryd.prog ty ev g n (.build 143 parts) = (fillP [(0, 1)] [.string ByteArray.empty] (parts.toList.map fun p => (p.1, ev p.2))).map fun cs => (.agg cs.toArray, .none) := aOp_buildS tz_errors_errorString tp_errors_errorString
theorem ia_A256_uint8 : ∀ (b o : Nat) (i : Int), aIndexAddrR Tryd.prog (some (.array 256 5)) (.pointer (some ⟨b, o, none⟩)) i = if 0 ≤ i ∧ i < (256 : Nat) then some (.pointer (some ⟨b, o + i.toNat * 1, none⟩)) else none := fun b o i => aIndexAddrR_array i ts_uint8
theorem sl_A256_uint8 : ∀ (ty : TypeId) (ev : Operand → Value) (g : AMem) (n : Nat) (x : Operand), aOp Tryd.prog ty ev g n (.slice 145 x none none none) = (saR g 256 1 (ev x)).map fun v => (v, .none) := aOp_sliceA tu_A256_uint8 ts_uint8
theorem beq_unicode_utf8_acceptRange : ∀ (xo yo : Operand) (xs ys : List Value), fitsB [.int .u8, .int .u8] xs = true → fitsB [.int .u8, .int .u8] ys = true → aBin Tryd.prog .eql 147 xo yo (.agg xs.toArray) (.agg ys.toArray) = some (.bool (cellsEq xs ys)) := fun _ _ _ _ hx hy => bin_eql_agg te_unicode_utf8_acceptRange ta_unicode_utf8_acceptRange hx hy
theorem bne_unicode_utf8_acceptRange : ∀ (xo yo : Operand) (xs ys : List Value), fitsB [.int .u8, .int .u8] xs = true → fitsB [.int .u8, .int .u8] ys = true → aBin Tryd.prog .neq 147 xo yo (.agg xs.toArray) (.agg ys.toArray) = some (.bool (!cellsEq xs ys)) := fun _ _ _ _ hx hy => bin_neq_agg te_unicode_utf8_acceptRange ta_unicode_utf8_acceptRange hx hy
theorem bs_unicode_utf8_acceptRange : ∀ (ty : TypeId) (ev : Operand → Value) (g : AMem) (n : Nat) (parts : Array (Nat × Operand)), aOp Tryd.prog ty ev g n (.build 147 parts) = (fillP [(0, 1), (1, 1)] [.int .u8 0, .int .u8 0] (parts.toList.map fun p => (p.1, ev p.2))).map fun cs => (.agg cs.toArray, .none) := aOp_buildS tz_unicode_utf8_acceptRange tp_unicode_utf8_acceptRange
theorem beq_A16_utf8_acceptRange : ∀ (xo yo : Operand) (xs ys : List Value), fitsB [.int .u8, .int .u8, .int .u8, .int .u8, .int .u8, .int .u8, .int .u8, .int .u8, .int .u8, .int .u8, .int .u8, .int .u8, .int .u8, .int .u8, .int .u8, .int .u8, .int .u8, .int .u8, .int .u8, .int .u8, .int .u8, .int .u8, .int .u8, .int .u8, .int .u8, .int .u8, .int .u8, .int .u8, .int .u8, .int .u8, .int .u8, .int .u8] xs = true → fitsB [.int .u8, .int .u8, .int .u8, .int .u8, .int .u8, .int .u8, .int .u8, .int .u8, .int .u8, .int .u8, .int .u8, .int .u8, .int .u8, .int .u8, .int .u8, .int .u8, .int .u8, .int .u8, .int .u8, .int .u8, .int .u8, .int .u8, .int .u8, .int .u8, .int .u8, .int .u8, .int .u8, .int .u8, .int .u8, .int .u8, .int .u8, .int .u8] ys = true → aBin Tryd.prog .eql 148 xo yo (.agg xs.toArray) (.agg ys.toArray) = some (.bool (cellsEq xs ys)) := fun _ _ _ _ hx hy => bin_eql_agg te_A16_utf8_acceptRange ta_A16_utf8_acceptRange hx hy
theorem bne_A16_utf8_acceptRange : ∀ (xo yo : Operand) (xs ys : List Value), fitsB [.int .u8, .int .u8, .int .u8, .int .u8, .int .u8, .int .u8, .int .u8, .int .u8, .int .u8, .int .u8, .int .u8, .int .u8, .int .u8, .int .u8, .int .u8, .int .u8, .int .u8, .int .u8, .int .u8, .int .u8, .int .u8, .int .u8, .int .u8, .int .u8, .int .u8, .int .u8, .int .u8, .int .u8, .int .u8, .int .u8, .int .u8, .int .u8] xs = true → fitsB [.int .u8, .int .u8, .int .u8, .int .u8, .int .u8, .int .u8, .int .u8, .int .u8, .int .u8, .int .u8, .int .u8, .int .u8, .int .u8, .int .u8, .int .u8, .int .u8, .int .u8, .int .u8, .int .u8, .int .u8, .int .u8, .int .u8, .int .u8, .int .u8, .int .u8, .int .u8, .int .u8, .int .u8, .int .u8, .int .u8, .int .u8, .int .u8] ys = true → aBin Tryd.prog .neq 148 xo yo (.agg xs.toArray) (.agg ys.toArray) = some (.bool (!cellsEq xs ys)) := fun _ _ _ _ hx hy => bin_neq_agg te_A16_utf8_acceptRange ta_A16_utf8_acceptRange hx hy
theorem bs_A16_utf8_acceptRange : ∀ (ty : TypeId) (ev : Operand → Value) (g : AMem) (n : Nat) (parts : Array (Nat × Operand)), aOp Tryd.prog ty ev g n (.build 148 parts) = (fillS 2 [.int .u8 0, .int .u8 0, .int .u8 0, .int .u8 0, .int .u8 0, .int .u8 0, .int .u8 0, .int .u8 0, .int .u8 0, .int .u8 0, .int .u8 0, .int .u8 0, .int .u8 0, .int .u8 0, .int .u8 0, .int .u8 0, .int .u8 0, .int .u8 0, .int .u8 0, .int .u8 0, .int .u8 0, .int .u8 0, .int .u8 0, .int .u8 0, .int .u8 0, .int .u8 0, .int .u8 0, .int .u8 0, .int .u8 0, .int .u8 0, .int .u8 0, .int .u8 0] (parts.toList.map fun p => (p.1, ev p.2))).map fun cs => (.agg cs.toArray, .none) := aOp_buildA tz_A16_utf8_acceptRange tu_A16_utf8_acceptRange ts_unicode_utf8_acceptRange
theorem ia_A16_utf8_acceptRange : ∀ (b o : Nat) (i : Int), aIndexAddrR Tryd.prog (some (.array 16 147)) (.pointer (some ⟨b, o, none⟩)) i = if 0 ≤ i ∧ i < (16 : Nat) then some (.pointer (some ⟨b, o + i.toNat * 2, none⟩)) else none := fun b o i => aIndexAddrR_array i ts_unicode_utf8_acceptRange
theorem sl_A16_utf8_acceptRange : ∀ (ty : TypeId) (ev : Operand → Value) (g : AMem) (n : Nat) (x : Operand), aOp Tryd.prog ty ev g n (.slice 148 x none none none) = (saR g 16 2 (ev x)).map fun v => (v, .none) := aOp_sliceA tu_A16_utf8_acceptRange ts_unicode_utf8_acceptRange
theorem beq_A32_uint8 : ∀ (xo yo : Operand) (xs ys : List Value), fitsB [.int .u8, .int .u8, .int .u8, .int .u8, .int .u8, .int .u8, .int .u8, .int .u8, .int .u8, .int .u8, .int .u8, .int .u8, .int .u8, .int .u8, .int .u8, .int .u8, .int .u8, .int .u8, .int .u8, .int .u8, .int .u8, .int .u8, .int .u8, .int .u8, .int .u8, .int .u8, .int .u8, .int .u8, .int .u8, .int .u8, .int .u8, .int .u8] xs = true → fitsB [.int .u8, .int .u8, .int .u8, .int .u8, .int .u8, .int .u8, .int .u8, .int .u8, .int .u8, .int .u8, .int .u8, .int .u8, .int .u8, .int .u8, .int .u8, .int .u8, .int .u8, .int .u8, .int .u8, .int .u8, .int .u8, .int .u8, .int .u8, .int .u8, .int .u8, .int .u8, .int .u8, .int .u8, .int .u8, .int .u8, .int .u8, .int .u8] ys = true → aBin Tryd.prog .eql 151 xo yo (.agg xs.toArray) (.agg ys.toArray) = some (.bool (cellsEq xs ys)) := fun _ _ _ _ hx hy => bin_eql_agg te_A32_uint8 ta_A32_uint8 hx hy
theorem bne_A32_uint8 : ∀ (xo yo : Operand) (xs ys : List Value), fitsB [.int .u8, .int .u8, .int .u8, .int .u8, .int .u8, .int .u8, .int .u8, .int .u8, .int .u8, .int .u8, .int .u8, .int .u8, .int .u8, .int .u8, .int .u8, .int .u8, .int .u8, .int .u8, .int .u8, .int .u8, .int .u8, .int .u8, .int .u8, .int .u8, .int .u8, .int .u8, .int .u8, .int .u8, .int .u8, .int .u8, .int .u8, .int .u8] xs = true → fitsB [.int .u8, .int .u8, .int .u8, .int .u8, .int .u8, .int .u8, .int .u8, .int .u8, .int .u8, .int .u8, .int .u8, .int .u8, .int .u8, .int .u8, .int .u8, .int .u8, .int .u8, .int .u8, .int .u8, .int .u8, .int .u8, .int .u8, .int .u8, .int .u8, .int .u8, .int .u8, .int .u8, .int .u8, .int .u8, .int .u8, .int .u8, .int .u8] ys = true → aBin Tryd.prog .neq 151 xo yo (.agg xs.toArray) (.agg ys.toArray) = some (.bool (!cellsEq xs ys)) := fun _ _ _ _ hx hy => bin_neq_agg te_A32_uint8 ta_A32_uint8 hx hy
theorem bs_A32_uint8 : ∀ (ty : TypeId) (ev : Operand → Value) (g : AMem) (n : Nat) (parts : Array (Nat × Operand)), aOp Tryd.prog ty ev g n (.build 151 parts) = (fillS 1 [.int .u8 0, .int .u8 0, .int .u8 0, .int .u8 0, .int .u8 0, .int .u8 0, .int .u8 0, .int .u8 0, .int .u8 0, .int .u8 0, .int .u8 0, .int .u8 0, .int .u8 0, .int .u8 0, .int .u8 0, .int .u8 0, .int .u8 0, .int .u8 0, .int .u8 0, .int .u8 0, .int .u8 0, .int .u8 0, .int .u8 0, .int .u8 0, .int .u8 0, .int .u8 0, .int .u8 0, .int .u8 0, .int .u8 0, .int .u8 0, .int .u8 0, .int .u8 0] (parts.toList.map fun p => (p.1, ev p.2))).map fun cs => (.agg cs.toArray, .none) := aOp_buildA tz_A32_uint8 tu_A32_uint8 ts_uint8
theorem ia_A32_uint8 : ∀ (b o : Nat) (i : Int), aIndexAddrR Tryd.prog (some (.array 32 5)) (.pointer (some ⟨b, o, none⟩)) i = if 0 ≤ i ∧ i < (32 : Nat) then some (.pointer (some ⟨b, o + i.toNat * 1, none⟩)) else none := fun b o i => aIndexAddrR_array i ts_uint8
theorem sl_A32_uint8 : ∀ (ty : TypeId) (ev : Operand → Value) (g : AMem) (n : Nat) (x : Operand), aOp Tryd.prog ty ev g n (.slice 151 x none none none) = (saR g 32 1 (ev x)).map fun v => (v, .none) := aOp_sliceA tu_A32_uint8 ts_uint8
theorem ia_A64_uint8 : ∀ (b o : Nat) (i : Int), aIndexAddrR Tryd.prog (some (.array 64 5)) (.pointer (some ⟨b, o, none⟩)) i = if 0 ≤ i ∧ i < (64 : Nat) then some (.pointer (some ⟨b, o + i.toNat * 1, none⟩)) else none := fun b o i => aIndexAddrR_array i ts_uint8
theorem sl_A64_uint8 : ∀ (ty : TypeId) (ev : Operand → Value) (g : AMem) (n : Nat) (x : Operand), aOp Tryd.prog ty ev g n (.slice 152 x none none none) = (saR g 64 1 (ev x)).map fun v => (v, .none) := aOp_sliceA tu_A64_uint8 ts_uint8
theorem q_int64 : (tsize Tryd.prog 2 = some 1) ∧ (tagg Tryd.prog 2 = some false) ∧ (zeroFlat Tryd.prog 2 = some [.int .i64 0]) ∧ (Tryd.prog.underlying 2 = some (.int .i64)) := ⟨ts_int64, ta_int64, tz_int64, tu_int64⟩
theorem q_int : (tsize Tryd.prog 3 = some 1) ∧ (tagg Tryd.prog 3 = some false) ∧ (zeroFlat Tryd.prog 3 = some [.int .i64 0]) ∧ (Tryd.prog.underlying 3 = some (.int .i64)) := ⟨ts_int, ta_int, tz_int, tu_int⟩
theorem q_bool : (tsize Tryd.prog 4 = some 1) ∧ (tagg Tryd.prog 4 = some false) ∧ (zeroFlat Tryd.prog 4 = some [.bool false]) ∧ (Tryd.prog.underlying 4 = some (.bool)) := ⟨ts_bool, ta_bool, tz_bool, tu_bool⟩
theorem q_uint8 : (tsize Tryd.prog 5 = some 1) ∧ (tagg Tryd.prog 5 = some false) ∧ (zeroFlat Tryd.prog 5 = some [.int .u8 0]) ∧ (Tryd.prog.underlying 5 = some (.int .u8)) := ⟨ts_uint8, ta_uint8, tz_uint8, tu_uint8⟩
theorem q_string : (tsize Tryd.prog 9 = some 1) ∧ (tagg Tryd.prog 9 = some false) ∧ (zeroFlat Tryd.prog 9 = some [.string ByteArray.empty]) ∧ (Tryd.prog.underlying 9 = some (.string)) := ⟨ts_string, ta_string, tz_string, tu_string⟩
theorem q_interface : (tsize Tryd.prog 20 = some 1) ∧ (tagg Tryd.prog 20 = some false) ∧ (zeroFlat Tryd.prog 20 = some [.nilIface]) := ⟨ts_interface, ta_interface, tz_interface⟩
theorem q_int32 : (tsize Tryd.prog 21 = some 1) ∧ (tagg Tryd.prog 21 = some false) ∧ (zeroFlat Tryd.prog 21 = some [.int .i32 0]) ∧ (Tryd.prog.underlying 21 = some (.int .i32)) := ⟨ts_int32, ta_int32, tz_int32, tu_int32⟩
theorem q_S_int : (tsize Tryd.prog 22 = some 1) ∧ (tagg Tryd.prog 22 = some false) ∧ (zeroFlat Tryd.prog 22 = some [.slice none 0 0]) ∧ (Tryd.prog.underlying 22 = some (.slice 3)) ∧ (∀ (ty : TypeId) (ev : Operand → Value) (g : AMem) (n : Nat) (len : Nat) (parts : Array (Nat × Operand)), len * 1 ≤ 16777216 → aOp Tryd.prog ty ev g n (.buildSlice 22 len parts) = (fillS 1 (zeroRow [.int .i64 0] len) (parts.toList.map fun p => (p.1, ev p.2))).map fun cs => (.slice (some ⟨n, 0, none⟩) len 1, .new (.row cs true))) ∧ (∀ (g : AMem) (n : Nat) (s x : Value), aAppend Tryd.prog g n 22 s x = appR g n 0 8 s (aRead g 1 x)) ∧ (∀ (n : Nat) (k k' : IntKind) (l c : Int), aMake Tryd.prog n 22 (.int k l) (.int k' c) = if 0 ≤ l ∧ l ≤ c ∧ c ≤ 70368744177664 ∧ 8 * c.toNat ≤ 70368744177664 then some (.slice (some ⟨n, 0, none⟩) l.toNat 1, .new (.row (zeroRow [.int .i64 0] l.toNat) true)) else none) ∧ (∀ (ty : TypeId) (ev : Operand → Value) (g : AMem) (n : Nat) (x : Operand) (lo hi : Option Operand), aOp Tryd.prog ty ev g n (.slice 22 x lo hi none) = (slR 1 (ev x) (lo.map ev) (hi.map ev)).map fun v => (v, .none)) ∧ (∀ (g : AMem) (d s : Value), aCopy Tryd.prog g 22 d s = cpR g 1 d (aRead g 1 s)) := ⟨ts_S_int, ta_S_int, tz_S_int, tu_S_int, bl_S_int, ap_S_int, mk_S_int, sl_S_int, cp_S_int⟩
theorem q_path_Path : (tsize Tryd.prog 25 = some 1) ∧ (tagg Tryd.prog 25 = some true) ∧ (zeroFlat Tryd.prog 25 = some [.slice none 0 0]) ∧ (tplaces Tryd.prog 25 = some [(0, 1)]) ∧ (tfield Tryd.prog 25 0 = some (22, 0)) ∧ (tfield' Tryd.prog 25 0 = some (22, 0)) ∧ (∀ (ty : TypeId) (ev : Operand → Value) (g : AMem) (n : Nat) (parts : Array (Nat × Operand)), aOp Tryd.prog ty ev g n (.build 25 parts) = (fillP [(0, 1)] [.slice none 0 0] (parts.toList.map fun p => (p.1, ev p.2))).map fun cs => (.agg cs.toArray, .none)) := ⟨ts_path_Path, ta_path_Path, tz_path_Path, tp_path_Path, tf_path_Path_L, tg_path_Path_L, bs_path_Path⟩
theorem q_uint64 : (tsize Tryd.prog 27 = some 1) ∧ (tagg Tryd.prog 27 = some false) ∧ (zeroFlat Tryd.prog 27 = some [.int .u64 0]) ∧ (Tryd.prog.underlying 27 = some (.int .u64)) := ⟨ts_uint64, ta_uint64, tz_uint64, tu_uint64⟩
theorem q_S_string : (tsize Tryd.prog 65 = some 1) ∧ (tagg Tryd.prog 65 = some false) ∧ (zeroFlat Tryd.prog 65 = some [.slice none 0 0]) ∧ (Tryd.prog.underlying 65 = some (.slice 9)) ∧ (∀ (ty : TypeId) (ev : Operand → Value) (g : AMem) (n : Nat) (len : Nat) (parts : Array (Nat × Operand)), len * 1 ≤ 16777216 → aOp Tryd.prog ty ev g n (.buildSlice 65 len parts) = (fillS 1 (zeroRow [.string ByteArray.empty] len) (parts.toList.map fun p => (p.1, ev p.2))).map fun cs => (.slice (some ⟨n, 0, none⟩) len 1, .new (.row cs true))) ∧ (∀ (g : AMem) (n : Nat) (s x : Value), aAppend Tryd.prog g n 65 s x = appR g n 0 16 s (aRead g 1 x)) ∧ (∀ (n : Nat) (k k' : IntKind) (l c : Int), aMake Tryd.prog n 65 (.int k l) (.int k' c) = if 0 ≤ l ∧ l ≤ c ∧ c ≤ 70368744177664 ∧ 16 * c.toNat ≤ 70368744177664 then some (.slice (some ⟨n, 0, none⟩) l.toNat 1, .new (.row (zeroRow [.string ByteArray.empty] l.toNat) true)) else none) ∧ (∀ (ty : TypeId) (ev : Operand → Value) (g : AMem) (n : Nat) (x : Operand) (lo hi : Option Operand), aOp Tryd.prog ty ev g n (.slice 65 x lo hi none) = (slR 1 (ev x) (lo.map ev) (hi.map ev)).map fun v => (v, .none)) ∧ (∀ (g : AMem) (d s : Value), aCopy Tryd.prog g 65 d s = cpR g 1 d (aRead g 1 s)) := ⟨ts_S_string, ta_S_string, tz_S_string, tu_S_string, bl_S_string, ap_S_string, mk_S_string, sl_S_string, cp_S_string⟩
theorem q_S_uint64 : (tsize Tryd.prog 66 = some 1) ∧ (tagg Tryd.prog 66 = some false) ∧ (zeroFlat Tryd.prog 66 = some [.slice none 0 0]) ∧ (Tryd.prog.underlying 66 = some (.slice 27)) ∧ (∀ (ty : TypeId) (ev : Operand → Value) (g : AMem) (n : Nat) (len : Nat) (parts : Array (Nat × Operand)), len * 1 ≤ 16777216 → aOp Tryd.prog ty ev g n (.buildSlice 66 len parts) = (fillS 1 (zeroRow [.int .u64 0] len) (parts.toList.map fun p => (p.1, ev p.2))).map fun cs => (.slice (some ⟨n, 0, none⟩) len 1, .new (.row cs true))) ∧ (∀ (g : AMem) (n : Nat) (s x : Value), aAppend Tryd.prog g n 66 s x = appR g n 0 8 s (aRead g 1 x)) ∧ (∀ (n : Nat) (k k' : IntKind) (l c : Int), aMake Tryd.prog n 66 (.int k l) (.int k' c) = if 0 ≤ l ∧ l ≤ c ∧ c ≤ 70368744177664 ∧ 8 * c.toNat ≤ 70368744177664 then some (.slice (some ⟨n, 0, none⟩) l.toNat 1, .new (.row (zeroRow [.int .u64 0] l.toNat) true)) else none) ∧ (∀ (ty : TypeId) (ev : Operand → Value) (g : AMem) (n : Nat) (x : Operand) (lo hi : Option Operand), aOp Tryd.prog ty ev g n (.slice 66 x lo hi none) = (slR 1 (ev x) (lo.map ev) (hi.map ev)).map fun v => (v, .none)) ∧ (∀ (g : AMem) (d s : Value), aCopy Tryd.prog g 66 d s = cpR g 1 d (aRead g 1 s)) := ⟨ts_S_uint64, ta_S_uint64, tz_S_uint64, tu_S_uint64, bl_S_uint64, ap_S_uint64, mk_S_uint64, sl_S_uint64, cp_S_uint64⟩
theorem q_uint : (tsize Tryd.prog 85 = some 1) ∧ (tagg Tryd.prog 85 = some false) ∧ (zeroFlat Tryd.prog 85 = some [.int .u64 0]) ∧ (Tryd.prog.underlying 85 = some (.int .u64)) := ⟨ts_uint, ta_uint, tz_uint, tu_uint⟩
theorem q_error : (tsize Tryd.prog 88 = some 1) ∧ (tagg Tryd.prog 88 = some false) ∧ (zeroFlat Tryd.prog 88 = some [.nilIface]) := ⟨ts_error, ta_error, tz_error⟩
theorem q_P_strings_Builder : (tsize Tryd.prog 92 = some 1) ∧ (tagg Tryd.prog 92 = some false) ∧ (zeroFlat Tryd.prog 92 = some [.pointer none]) ∧ (Tryd.prog.underlying 92 = some (.pointer 95)) := ⟨ts_P_strings_Builder, ta_P_strings_Builder, tz_P_strings_Builder, tu_P_strings_Builder⟩
theorem q_S_uint8 : (tsize Tryd.prog 93 = some 1) ∧ (tagg Tryd.prog 93 = some false) ∧ (zeroFlat Tryd.prog 93 = some [.slice none 0 0]) ∧ (Tryd.prog.underlying 93 = some (.slice 5)) ∧ (∀ (ty : TypeId) (ev : Operand → Value) (g : AMem) (n : Nat) (len : Nat) (parts : Array (Nat × Operand)), len * 1 ≤ 16777216 → aOp Tryd.prog ty ev g n (.buildSlice 93 len parts) = (fillS 1 (zeroRow [.int .u8 0] len) (parts.toList.map fun p => (p.1, ev p.2))).map fun cs => (.slice (some ⟨n, 0, none⟩) len 1, .new (.row cs true))) ∧ (∀ (g : AMem) (n : Nat) (s x : Value), aAppend Tryd.prog g n 93 s x = appR g n 0 1 s (aRead g 1 x)) ∧ (∀ (n : Nat) (k k' : IntKind) (l c : Int), aMake Tryd.prog n 93 (.int k l) (.int k' c) = if 0 ≤ l ∧ l ≤ c ∧ c ≤ 70368744177664 ∧ 1 * c.toNat ≤ 70368744177664 then some (.slice (some ⟨n, 0, none⟩) l.toNat 1, .new (.row (zeroRow [.int .u8 0] l.toNat) true)) else none) ∧ (∀ (ty : TypeId) (ev : Operand → Value) (g : AMem) (n : Nat) (x : Operand) (lo hi : Option Operand), aOp Tryd.prog ty ev g n (.slice 93 x lo hi none) = (slR 1 (ev x) (lo.map ev) (hi.map ev)).map fun v => (v, .none)) ∧ (∀ (g : AMem) (d s : Value), aCopy Tryd.prog g 93 d s = cpR g 1 d (aRead g 1 s)) := ⟨ts_S_uint8, ta_S_uint8, tz_S_uint8, tu_S_uint8, bl_S_uint8, ap_S_uint8, mk_S_uint8, sl_S_uint8, cp_S_uint8⟩
theorem q_strings_Builder : (tsize Tryd.prog 95 = some 2) ∧ (tagg Tryd.prog 95 = some true) ∧ (zeroFlat Tryd.prog 95 = some [.pointer none, .slice none 0 0]) ∧ (tplaces Tryd.prog 95 = some [(0, 1), (1, 1)]) ∧ (tfield Tryd.prog 95 0 = some (92, 0)) ∧ (tfield' Tryd.prog 95 0 = some (92, 0)) ∧ (tfield Tryd.prog 95 1 = some (93, 1)) ∧ (tfield' Tryd.prog 95 1 = some (93, 1)) ∧ (∀ (ty : TypeId) (ev : Operand → Value) (g : AMem) (n : Nat) (parts : Array (Nat × Operand)), aOp Tryd.prog ty ev g n (.build 95 parts) = (fillP [(0, 1), (1, 1)] [.pointer none, .slice none 0 0] (parts.toList.map fun p => (p.1, ev p.2))).map fun cs => (.agg cs.toArray, .none)) := ⟨ts_strings_Builder, ta_strings_Builder, tz_strings_Builder, tp_strings_Builder, tf_strings_Builder_addr, tg_strings_Builder_addr, tf_strings_Builder_buf, tg_strings_Builder_buf, bs_strings_Builder⟩
theorem q_P_uint8 : (tsize Tryd.prog 107 = some 1) ∧ (tagg Tryd.prog 107 = some false) ∧ (zeroFlat Tryd.prog 107 = some [.pointer none]) ∧ (Tryd.prog.underlying 107 = some (.pointer 5)) := ⟨ts_P_uint8, ta_P_uint8, tz_P_uint8, tu_P_uint8⟩
theorem q_P_strconv_NumError : (tsize Tryd.prog 113 = some 1) ∧ (tagg Tryd.prog 113 = some false) ∧ (zeroFlat Tryd.prog 113 = some [.pointer none]) ∧ (Tryd.prog.underlying 113 = some (.pointer 132)) := ⟨ts_P_strconv_NumError, ta_P_strconv_NumError, tz_P_strconv_NumError, tu_P_strconv_NumError⟩
theorem q_A24_uint8 : (tsize Tryd.prog 116 = some 24) ∧ (tagg Tryd.prog 116 = some true) ∧ (zeroFlat Tryd.prog 116 = some [.int .u8 0, .int .u8 0, .int .u8 0, .int .u8 0, .int .u8 0, .int .u8 0, .int .u8 0, .int .u8 0, .int .u8 0, .int .u8 0, .int .u8 0, .int .u8 0, .int .u8 0, .int .u8 0, .int .u8 0, .int .u8 0, .int .u8 0, .int .u8 0, .int .u8 0, .int .u8 0, .int .u8 0, .int .u8 0, .int .u8 0, .int .u8 0]) ∧ (Tryd.prog.underlying 116 = some (.array 24 5)) ∧ (∀ (ty : TypeId) (ev : Operand → Value) (g : AMem) (n : Nat) (parts : Array (Nat × Operand)), aOp Tryd.prog ty ev g n (.build 116 parts) = (fillS 1 [.int .u8 0, .int .u8 0, .int .u8 0, .int .u8 0, .int .u8 0, .int .u8 0, .int .u8 0, .int .u8 0, .int .u8 0, .int .u8 0, .int .u8 0, .int .u8 0, .int .u8 0, .int .u8 0, .int .u8 0, .int .u8 0, .int .u8 0, .int .u8 0, .int .u8 0, .int .u8 0, .int .u8 0, .int .u8 0, .int .u8 0, .int .u8 0] (parts.toList.map fun p => (p.1, ev p.2))).map fun cs => (.agg cs.toArray, .none)) ∧ (∀ (b o : Nat) (i : Int), aIndexAddrR Tryd.prog (some (.array 24 5)) (.pointer (some ⟨b, o, none⟩)) i = if 0 ≤ i ∧ i < (24 : Nat) then some (.pointer (some ⟨b, o + i.toNat * 1, none⟩)) else none) ∧ (∀ (ty : TypeId) (ev : Operand → Value) (g : AMem) (n : Nat) (x : Operand), aOp Tryd.prog ty ev g n (.slice 116 x none none none) = (saR g 24 1 (ev x)).map fun v => (v, .none)) := ⟨ts_A24_uint8, ta_A24_uint8, tz_A24_uint8, tu_A24_uint8, bs_A24_uint8, ia_A24_uint8, sl_A24_uint8⟩
theorem q_strconv_NumError : (tsize Tryd.prog 132 = some 3) ∧ (tagg Tryd.prog 132 = some true) ∧ (zeroFlat Tryd.prog 132 = some [.string ByteArray.empty, .string ByteArray.empty, .nilIface]) ∧ (tplaces Tryd.prog 132 = some [(0, 1), (1, 1), (2, 1)]) ∧ (tfield Tryd.prog 132 0 = some (9, 0)) ∧ (tfield' Tryd.prog 132 0 = some (9, 0)) ∧ (tfield Tryd.prog 132 1 = some (9, 1)) ∧ (tfield' Tryd.prog 132 1 = some (9, 1)) ∧ (tfield Tryd.prog 132 2 = some (88, 2)) ∧ (tfield' Tryd.prog 132 2 = some (88, 2)) ∧ (∀ (ty : TypeId) (ev : Operand → Value) (g : AMem) (n : Nat) (parts : Array (Nat × Operand)), aOp Tryd.prog ty ev g n (.build 132 parts) = (fillP [(0, 1), (1, 1), (2, 1)] [.string ByteArray.empty, .string ByteArray.empty, .nilIface] (parts.toList.map fun p => (p.1, ev p.2))).map fun cs => (.agg cs.toArray, .none)) := ⟨ts_strconv_NumError, ta_strconv_NumError, tz_strconv_NumError, tp_strconv_NumError, tf_strconv_NumError_Func, tg_strconv_NumError_Func, tf_strconv_NumError_Num, tg_strconv_NumError_Num, tf_strconv_NumError_Err, tg_strconv_NumError_Err, bs_strconv_NumError⟩
theorem q_A20_uint64 : (tsize Tryd.prog 135 = some 20) ∧ (tagg Tryd.prog 135 = some true) ∧ (zeroFlat Tryd.prog 135 = some [.int .u64 0, .int .u64 0, .int .u64 0, .int .u64 0, .int .u64 0, .int .u64 0, .int .u64 0, .int .u64 0, .int .u64 0, .int .u64 0, .int .u64 0, .int .u64 0, .int .u64 0, .int .u64 0, .int .u64 0, .int .u64 0, .int .u64 0, .int .u64 0, .int .u64 0, .int .u64 0]) ∧ (Tryd.prog.underlying 135 = some (.array 20 27)) ∧ (∀ (ty : TypeId) (ev : Operand → Value) (g : AMem) (n : Nat) (parts : Array (Nat × Operand)), aOp Tryd.prog ty ev g n (.build 135 parts) = (fillS 1 [.int .u64 0, .int .u64 0, .int .u64 0, .int .u64 0, .int .u64 0, .int .u64 0, .int .u64 0, .int .u64 0, .int .u64 0, .int .u64 0, .int .u64 0, .int .u64 0, .int .u64 0, .int .u64 0, .int .u64 0, .int .u64 0, .int .u64 0, .int .u64 0, .int .u64 0, .int .u64 0] (parts.toList.map fun p => (p.1, ev p.2))).map fun cs => (.agg cs.toArray, .none)) ∧ (∀ (b o : Nat) (i : Int), aIndexAddrR Tryd.prog (some (.array 20 27)) (.pointer (some ⟨b, o, none⟩)) i = if 0 ≤ i ∧ i < (20 : Nat) then some (.pointer (some ⟨b, o + i.toNat * 1, none⟩)) else none) ∧ (∀ (ty : TypeId) (ev : Operand → Value) (g : AMem) (n : Nat) (x : Operand), aOp Tryd.prog ty ev g n (.slice 135 x none none none) = (saR g 20 1 (ev x)).map fun v => (v, .none)) := ⟨ts_A20_uint64, ta_A20_uint64, tz_A20_uint64, tu_A20_uint64, bs_A20_uint64, ia_A20_uint64, sl_A20_uint64⟩
theorem q_uint32 : (tsize Tryd.prog 136 = some 1) ∧ (tagg Tryd.prog 136 = some false) ∧ (zeroFlat Tryd.prog 136 = some [.int .u32 0]) ∧ (Tryd.prog.underlying 136 = some (.int .u32)) := ⟨ts_uint32, ta_uint32, tz_uint32, tu_uint32⟩
theorem q_A65_uint8 : (tsize Tryd.prog 137 = some 65) ∧ (tagg Tryd.prog 137 = some true) ∧ (Tryd.prog.underlying 137 = some (.array 65 5)) ∧ (∀ (b o : Nat) (i : Int), aIndexAddrR Tryd.prog (some (.array 65 5)) (.pointer (some ⟨b, o, none⟩)) i = if 0 ≤ i ∧ i < (65 : Nat) then some (.pointer (some ⟨b, o + i.toNat * 1, none⟩)) else none) ∧ (∀ (ty : TypeId) (ev : Operand → Value) (g : AMem) (n : Nat) (x : Operand), aOp Tryd.prog ty ev g n (.slice 137 x none none none) = (saR g 65 1 (ev x)).map fun v => (v, .none)) := ⟨ts_A65_uint8, ta_A65_uint8, tu_A65_uint8, ia_A65_uint8, sl_A65_uint8⟩
theorem q_P_errors_errorString : (tsize Tryd.prog 141 = some 1) ∧ (tagg Tryd.prog 141 = some false) ∧ (zeroFlat Tryd.prog 141 = some [.pointer none]) ∧ (Tryd.prog.underlying 141 = some (.pointer 143)) := ⟨ts_P_errors_errorString, ta_P_errors_errorString, tz_P_errors_errorString, tu_P_errors_errorString⟩
theorem q_errors_errorString : (tsize Tryd.prog 143 = some 1) ∧ (tagg Tryd.prog 143 = some true) ∧ (zeroFlat Tryd.prog 143 = some [.string ByteArray.empty]) ∧ (tplaces Tryd.prog 143 = some [(0, 1)]) ∧ (tfield Tryd.prog 143 0 = some (9, 0)) ∧ (tfield' Tryd.prog 143 0 = some (9, 0)) ∧ (∀ (ty : TypeId) (ev : Operand → Value) (g : AMem) (n : Nat) (parts : Array (Nat × Operand)), aOp Tryd.prog ty ev g n (.build 143 parts) = (fillP [(0, 1)] [.string ByteArray.empty] (parts.toList.map fun p => (p.1, ev p.2))).map fun cs => (.agg cs.toArray, .none)) := ⟨ts_errors_errorString, ta_errors_errorString, tz_errors_errorString, tp_errors_errorString, tf_errors_errorString_s, tg_errors_errorString_s, bs_errors_errorString⟩
theorem q_A256_uint8 : (tsize Tryd.prog 145 = some 256) ∧ (tagg Tryd.prog 145 = some true) ∧ (Tryd.prog.underlying 145 = some (.array 256 5)) ∧ (∀ (b o : Nat) (i : Int), aIndexAddrR Tryd.prog (some (.array 256 5)) (.pointer (some ⟨b, o, none⟩)) i = if 0 ≤ i ∧ i < (256 : Nat) then some (.pointer (some ⟨b, o + i.toNat * 1, none⟩)) else none) ∧ (∀ (ty : TypeId) (ev : Operand → Value) (g : AMem) (n : Nat) (x : Operand), aOp Tryd.prog ty ev g n (.slice 145 x none none none) = (saR g 256 1 (ev x)).map fun v => (v, .none)) := ⟨ts_A256_uint8, ta_A256_uint8, tu_A256_uint8, ia_A256_uint8, sl_A256_uint8⟩
theorem q_unicode_utf8_acceptRange : (tsize Tryd.prog 147 = some 2) ∧ (tagg Tryd.prog 147 = some true) ∧ (zeroFlat Tryd.prog 147 = some [.int .u8 0, .int .u8 0]) ∧ (tplaces Tryd.prog 147 = some [(0, 1), (1, 1)]) ∧ (tfield Tryd.prog 147 0 = some (5, 0)) ∧ (tfield' Tryd.prog 147 0 = some (5, 0)) ∧ (tfield Tryd.prog 147 1 = some (5, 1)) ∧ (tfield' Tryd.prog 147 1 = some (5, 1)) ∧ (∀ (ty : TypeId) (ev : Operand → Value) (g : AMem) (n : Nat) (parts : Array (Nat × Operand)), aOp Tryd.prog ty ev g n (.build 147 parts) = (fillP [(0, 1), (1, 1)] [.int .u8 0, .int .u8 0] (parts.toList.map fun p => (p.1, ev p.2))).map fun cs => (.agg cs.toArray, .none)) := ⟨ts_unicode_utf8_acceptRange, ta_unicode_utf8_acceptRange, tz_unicode_utf8_acceptRange, tp_unicode_utf8_acceptRange, tf_unicode_utf8_acceptRange_lo, tg_unicode_utf8_acceptRange_lo, tf_unicode_utf8_acceptRange_hi, tg_unicode_utf8_acceptRange_hi, bs_unicode_utf8_acceptRange⟩
theorem q_A16_utf8_acceptRange : (tsize Tryd.prog 148 = some 32) ∧ (tagg Tryd.prog 148 = some true) ∧ (zeroFlat Tryd.prog 148 = some [.int .u8 0, .int .u8 0, .int .u8 0, .int .u8 0, .int .u8 0, .int .u8 0, .int .u8 0, .int .u8 0, .int .u8 0, .int .u8 0, .int .u8 0, .int .u8 0, .int .u8 0, .int .u8 0, .int .u8 0, .int .u8 0, .int .u8 0, .int .u8 0, .int .u8 0, .int .u8 0, .int .u8 0, .int .u8 0, .int .u8 0, .int .u8 0, .int .u8 0, .int .u8 0, .int .u8 0, .int .u8 0, .int .u8 0, .int .u8 0, .int .u8 0, .int .u8 0]) ∧ (Tryd.prog.underlying 148 = some (.array 16 147)) ∧ (∀ (ty : TypeId) (ev : Operand → Value) (g : AMem) (n : Nat) (parts : Array (Nat × Operand)), aOp Tryd.prog ty ev g n (.build 148 parts) = (fillS 2 [.int .u8 0, .int .u8 0, .int .u8 0, .int .u8 0, .int .u8 0, .int .u8 0, .int .u8 0, .int .u8 0, .int .u8 0, .int .u8 0, .int .u8 0, .int .u8 0, .int .u8 0, .int .u8 0, .int .u8 0, .int .u8 0, .int .u8 0, .int .u8 0, .int .u8 0, .int .u8 0, .int .u8 0, .int .u8 0, .int .u8 0, .int .u8 0, .int .u8 0, .int .u8 0, .int .u8 0, .int .u8 0, .int .u8 0, .int .u8 0, .int .u8 0, .int .u8 0] (parts.toList.map fun p => (p.1, ev p.2))).map fun cs => (.agg cs.toArray, .none)) ∧ (∀ (b o : Nat) (i : Int), aIndexAddrR Tryd.prog (some (.array 16 147)) (.pointer (some ⟨b, o, none⟩)) i = if 0 ≤ i ∧ i < (16 : Nat) then some (.pointer (some ⟨b, o + i.toNat * 2, none⟩)) else none) ∧ (∀ (ty : TypeId) (ev : Operand → Value) (g : AMem) (n : Nat) (x : Operand), aOp Tryd.prog ty ev g n (.slice 148 x none none none) = (saR g 16 2 (ev x)).map fun v => (v, .none)) := ⟨ts_A16_utf8_acceptRange, ta_A16_utf8_acceptRange, tz_A16_utf8_acceptRange, tu_A16_utf8_acceptRange, bs_A16_utf8_acceptRange, ia_A16_utf8_acceptRange, sl_A16_utf8_acceptRange⟩
theorem q_A32_uint8 : (tsize Tryd.prog 151 = some 32) ∧ (tagg Tryd.prog 151 = some true) ∧ (zeroFlat Tryd.prog 151 = some [.int .u8 0, .int .u8 0, .int .u8 0, .int .u8 0, .int .u8 0, .int .u8 0, .int .u8 0, .int .u8 0, .int .u8 0, .int .u8 0, .int .u8 0, .int .u8 0, .int .u8 0, .int .u8 0, .int .u8 0, .int .u8 0, .int .u8 0, .int .u8 0, .int .u8 0, .int .u8 0, .int .u8 0, .int .u8 0, .int .u8 0, .int .u8 0, .int .u8 0, .int .u8 0, .int .u8 0, .int .u8 0, .int .u8 0, .int .u8 0, .int .u8 0, .int .u8 0]) ∧ (Tryd.prog.underlying 151 = some (.array 32 5)) ∧ (∀ (ty : TypeId) (ev : Operand → Value) (g : AMem) (n : Nat) (parts : Array (Nat × Operand)), aOp Tryd.prog ty ev g n (.build 151 parts) = (fillS 1 [.int .u8 0, .int .u8 0, .int .u8 0, .int .u8 0, .int .u8 0, .int .u8 0, .int .u8 0, .int .u8 0, .int .u8 0, .int .u8 0, .int .u8 0, .int .u8 0, .int .u8 0, .int .u8 0, .int .u8 0, .int .u8 0, .int .u8 0, .int .u8 0, .int .u8 0, .int .u8 0, .int .u8 0, .int .u8 0, .int .u8 0, .int .u8 0, .int .u8 0, .int .u8 0, .int .u8 0, .int .u8 0, .int .u8 0, .int .u8 0, .int .u8 0, .int .u8 0] (parts.toList.map fun p => (p.1, ev p.2))).map fun cs => (.agg cs.toArray, .none)) ∧ (∀ (b o : Nat) (i : Int), aIndexAddrR Tryd.prog (some (.array 32 5)) (.pointer (some ⟨b, o, none⟩)) i = if 0 ≤ i ∧ i < (32 : Nat) then some (.pointer (some ⟨b, o + i.toNat * 1, none⟩)) else none) ∧ (∀ (ty : TypeId) (ev : Operand → Value) (g : AMem) (n : Nat) (x : Operand), aOp Tryd.prog ty ev g n (.slice 151 x none none none) = (saR g 32 1 (ev x)).map fun v => (v, .none)) := ⟨ts_A32_uint8, ta_A32_uint8, tz_A32_uint8, tu_A32_uint8, bs_A32_uint8, ia_A32_uint8, sl_A32_uint8⟩
theorem q_A64_uint8 : (tsize Tryd.prog 152 = some 64) ∧ (tagg Tryd.prog 152 = some true) ∧ (Tryd.prog.underlying 152 = some (.array 64 5)) ∧ (∀ (b o : Nat) (i : Int), aIndexAddrR Tryd.prog (some (.array 64 5)) (.pointer (some ⟨b, o, none⟩)) i = if 0 ≤ i ∧ i < (64 : Nat) then some (.pointer (some ⟨b, o + i.toNat * 1, none⟩)) else none) ∧ (∀ (ty : TypeId) (ev : Operand → Value) (g : AMem) (n : Nat) (x : Operand), aOp Tryd.prog ty ev g n (.slice 152 x none none none) = (saR g 64 1 (ev x)).map fun v => (v, .none)) := ⟨ts_A64_uint8, ta_A64_uint8, tu_A64_uint8, ia_A64_uint8, sl_A64_uint8⟩
/-- reeve/reevelaw9.PathKnown -/
abbrev f_reevelaw9_PathKnown : FuncId := 10
def rc_reevelaw9_PathKnownl0 : RCode :=
  (.seq
    (.seq
      (.region [⟨some 16, .none, true, 3, .move (.tmp 2)⟩,
        ⟨some 17, .none, true, 65, .move (.tmp 1)⟩,
        ⟨some 18, .none, true, 3, .call { callee := .builtin .len, args := #[.tmp 17], argTypes := #[65] }⟩,
        ⟨some 19, .none, true, 4, .binOp .lss 3 (.tmp 16) (.tmp 18) 3⟩])
    (.keep [1, 2, 19]
    (.cond (.tmp 19)
      .skip
      (.exit 0))))
  (.seq
    (.block 1
      (.seq
        (.region [⟨some 23, .none, true, 65, .move (.tmp 1)⟩,
          ⟨some 24, .none, true, 3, .move (.tmp 2)⟩,
          ⟨some 25, .none, true, 0, .indexAddr 65 (.tmp 23) (.tmp 24)⟩,
          ⟨some 26, .none, true, 9, .load 9 (.tmp 25)⟩,
          ⟨some 27, .none, true, 61, .call { callee := .value (.func 36), args := #[.tmp 26], argTypes := #[9] }⟩,
          ⟨some 22, .none, true, 61, .move (.tmp 27)⟩,
          ⟨some 28, .none, true, 25, .extract (.tmp 22) 0⟩,
          ⟨some 29, .none, true, 4, .extract (.tmp 22) 1⟩,
          ⟨some 3, .none, true, 0, .alloc 25⟩,
          ⟨none, .none, true, 0, .store 25 (.tmp 3) (.tmp 28)⟩,
          ⟨some 4, .none, true, 4, .assign (.tmp 29)⟩])
      (.keep [1, 2, 3, 4]
      (.seq
        (.region [⟨some 30, .none, true, 4, .move (.tmp 4)⟩,
          ⟨some 31, .none, true, 4, .move (.tmp 30)⟩,
          ⟨some 32, .some 31 false, true, 0, .fieldAddr 25 (.tmp 3) 0⟩,
          ⟨some 33, .some 31 false, true, 22, .load 22 (.tmp 32)⟩,
          ⟨some 34, .some 31 false, true, 3, .call { callee := .builtin .len, args := #[.tmp 33], argTypes := #[22] }⟩,
          ⟨some 35, .some 31 false, true, 4, .binOp .neq 3 (.tmp 34) (.const (.int .i64 0)) 3⟩,
          ⟨some 36, .none, true, 4, .pick (.tmp 31) (.const (.bool true)) (.tmp 35)⟩])
      (.keep [1, 2, 36]
      (.cond (.tmp 36)
        (.seq
          (.region [⟨some 0, .none, true, 4, .assign (.const (.bool false))⟩])
        .ret)
        .skip))))))
  (.keep [1, 2]
  (.region [⟨some 20, .none, true, 3, .move (.tmp 2)⟩,
    ⟨some 21, .none, true, 3, .binOp .add 3 (.tmp 20) (.const (.int .i64 1)) 3⟩,
    ⟨some 2, .none, true, 3, .assign (.tmp 21)⟩]))))
def rc_reevelaw9_PathKnownl1 : RCode :=
  (.seq
    (.seq
      (.region [⟨some 38, .none, true, 3, .move (.tmp 6)⟩,
        ⟨some 39, .none, true, 66, .move (.tmp 5)⟩,
        ⟨some 40, .none, true, 3, .call { callee := .builtin .len, args := #[.tmp 39], argTypes := #[66] }⟩,
        ⟨some 41, .none, true, 4, .binOp .lss 3 (.tmp 38) (.tmp 40) 3⟩])
    (.keep [5, 6, 41]
    (.cond (.tmp 41)
      .skip
      (.exit 2))))
  (.seq
    (.block 3
      (.seq
        (.region [⟨some 45, .none, true, 66, .move (.tmp 5)⟩,
          ⟨some 46, .none, true, 3, .move (.tmp 6)⟩,
          ⟨some 47, .none, true, 0, .indexAddr 66 (.tmp 45) (.tmp 46)⟩,
          ⟨some 48, .none, true, 27, .load 27 (.tmp 47)⟩,
          ⟨some 49, .none, true, 61, .call { callee := .value (.func 35), args := #[.tmp 48], argTypes := #[27] }⟩,
          ⟨some 44, .none, true, 61, .move (.tmp 49)⟩,
          ⟨some 50, .none, true, 25, .extract (.tmp 44) 0⟩,
          ⟨some 51, .none, true, 4, .extract (.tmp 44) 1⟩,
          ⟨some 7, .none, true, 0, .alloc 25⟩,
          ⟨none, .none, true, 0, .store 25 (.tmp 7) (.tmp 50)⟩,
          ⟨some 8, .none, true, 4, .assign (.tmp 51)⟩])
      (.keep [5, 6, 7, 8]
      (.seq
        (.region [⟨some 52, .none, true, 4, .move (.tmp 8)⟩,
          ⟨some 53, .none, true, 4, .move (.tmp 52)⟩,
          ⟨some 54, .some 53 false, true, 0, .fieldAddr 25 (.tmp 7) 0⟩,
          ⟨some 55, .some 53 false, true, 22, .load 22 (.tmp 54)⟩,
          ⟨some 56, .some 53 false, true, 3, .call { callee := .builtin .len, args := #[.tmp 55], argTypes := #[22] }⟩,
          ⟨some 57, .some 53 false, true, 4, .binOp .neq 3 (.tmp 56) (.const (.int .i64 0)) 3⟩,
          ⟨some 58, .none, true, 4, .pick (.tmp 53) (.const (.bool true)) (.tmp 57)⟩])
      (.keep [5, 6, 58]
      (.cond (.tmp 58)
        (.seq
          (.region [⟨some 0, .none, true, 4, .assign (.const (.bool false))⟩])
        .ret)
        .skip))))))
  (.keep [5, 6]
  (.region [⟨some 42, .none, true, 3, .move (.tmp 6)⟩,
    ⟨some 43, .none, true, 3, .binOp .add 3 (.tmp 42) (.const (.int .i64 1)) 3⟩,
    ⟨some 6, .none, true, 3, .assign (.tmp 43)⟩]))))
def rc_reevelaw9_PathKnown : RCode :=
  (.seq
    (.region [⟨some 0, .none, true, 4, .assign (.const (.bool false))⟩])
  (.keep []
  (.seq
    (.seq
      (.region [⟨some 13, .none, true, 4, .call { callee := .value (.func 12), args := #[], argTypes := #[] }⟩,
        ⟨some 14, .none, true, 4, .unOp .not 4 (.tmp 13)⟩])
    (.keep [14]
    (.cond (.tmp 14)
      (.seq
        (.region [⟨some 0, .none, true, 4, .assign (.const (.bool false))⟩])
      .ret)
      .skip)))
  (.seq
    (.region [⟨some 15, .none, true, 65, .buildSlice 65 11 #[(0, .const (.string { data := #[] })), (1, .const (.string { data := #[46] })), (2, .const (.string { data := #[49, 46] })), (3, .const (.string { data := #[46, 49] })), (4, .const (.string { data := #[49, 54] })), (5, .const (.string { data := #[48, 49] })), (6, .const (.string { data := #[49, 46, 50, 46, 51, 46, 52] })), (7, .const (.string { data := #[45, 49] })), (8, .const (.string { data := #[49, 46, 46, 50] })), (9, .const (.string { data := #[97] })), (10, .const (.string { data := #[49, 46, 48, 49, 54] }))]⟩,
      ⟨some 1, .none, true, 65, .assign (.tmp 15)⟩])
  (.keep [1]
  (.seq
    (.seq
      (.region [⟨some 2, .none, true, 3, .assign (.const (.int .i64 0))⟩])
    (.keep [1, 2]
    (.block 0
      (.loop [1, 2] rc_reevelaw9_PathKnownl0))))
  (.seq
    (.region [⟨some 37, .none, true, 66, .buildSlice 66 6 #[(0, .const (.int .u64 0)), (1, .const (.int .u64 257)), (2, .const (.int .u64 4)), (3, .const (.int .u64 15)), (4, .const (.int .u64 65539)), (5, .const (.int .u64 9223372036854775808))]⟩,
      ⟨some 5, .none, true, 66, .assign (.tmp 37)⟩])
  (.keep [5]
  (.seq
    (.seq
      (.region [⟨some 6, .none, true, 3, .assign (.const (.int .i64 0))⟩])
    (.keep [5, 6]
    (.block 2
      (.loop [5, 6] rc_reevelaw9_PathKnownl1))))
  (.seq
    (.region [⟨some 60, .none, true, 22, .buildSlice 22 1 #[(0, .const (.int .i64 16))]⟩,
      ⟨some 61, .none, true, 25, .build 25 #[(0, .tmp 60)]⟩,
      ⟨some 62, .none, true, 28, .call { callee := .value (.func 14), args := #[.tmp 61], argTypes := #[25] }⟩,
      ⟨some 59, .none, true, 28, .move (.tmp 62)⟩,
      ⟨some 63, .none, true, 27, .extract (.tmp 59) 0⟩,
      ⟨some 64, .none, true, 4, .extract (.tmp 59) 1⟩,
      ⟨some 9, .none, true, 27, .assign (.tmp 63)⟩,
      ⟨some 10, .none, true, 4, .assign (.tmp 64)⟩])
  (.keep [10]
  (.seq
    (.region [⟨some 66, .none, true, 61, .call { callee := .value (.func 35), args := #[.const (.int .u64 61443)], argTypes := #[27] }⟩,
      ⟨some 65, .none, true, 61, .move (.tmp 66)⟩,
      ⟨some 67, .none, true, 25, .extract (.tmp 65) 0⟩,
      ⟨some 68, .none, true, 4, .extract (.tmp 65) 1⟩,
      ⟨some 11, .none, true, 0, .alloc 25⟩,
      ⟨none, .none, true, 0, .store 25 (.tmp 11) (.tmp 67)⟩,
      ⟨some 12, .none, true, 4, .assign (.tmp 68)⟩])
  (.keep [10, 11, 12]
  (.seq
    (.region [⟨some 69, .none, true, 4, .move (.tmp 10)⟩,
      ⟨some 70, .none, true, 4, .unOp .not 4 (.tmp 69)⟩,
      ⟨some 71, .none, true, 4, .move (.tmp 70)⟩,
      ⟨some 72, .some 71 true, true, 4, .move (.tmp 12)⟩,
      ⟨some 73, .none, true, 4, .pick (.tmp 71) (.tmp 72) (.const (.bool false))⟩,
      ⟨some 74, .none, true, 4, .move (.tmp 73)⟩,
      ⟨some 75, .some 74 true, true, 0, .fieldAddr 25 (.tmp 11) 0⟩,
      ⟨some 76, .some 74 true, true, 22, .load 22 (.tmp 75)⟩,
      ⟨some 77, .some 74 true, true, 22, .buildSlice 22 3 #[(0, .const (.int .i64 0)), (1, .const (.int .i64 0)), (2, .const (.int .i64 15))]⟩,
      ⟨some 78, .some 74 true, true, 4, .call { callee := .value (.func 15), args := #[.tmp 76, .tmp 77], argTypes := #[22, 22] }⟩,
      ⟨some 79, .none, true, 4, .pick (.tmp 74) (.tmp 78) (.const (.bool false))⟩,
      ⟨some 80, .none, true, 4, .move (.tmp 79)⟩,
      ⟨some 81, .some 80 true, true, 25, .build 25 #[]⟩,
      ⟨some 82, .some 80 true, true, 9, .call { callee := .value (.func 16), args := #[.tmp 81], argTypes := #[25] }⟩,
      ⟨some 83, .some 80 true, true, 4, .binOp .eql 9 (.tmp 82) (.const (.string { data := #[] })) 9⟩,
      ⟨some 84, .none, true, 4, .pick (.tmp 80) (.tmp 83) (.const (.bool false))⟩,
      ⟨some 85, .none, true, 4, .move (.tmp 84)⟩,
      ⟨some 86, .some 85 true, true, 22, .buildSlice 22 2 #[(0, .const (.int .i64 1)), (1, .const (.int .i64 2))]⟩,
      ⟨some 87, .some 85 true, true, 25, .build 25 #[(0, .tmp 86)]⟩,
      ⟨some 88, .some 85 true, true, 22, .buildSlice 22 1 #[(0, .const (.int .i64 1))]⟩,
      ⟨some 89, .some 85 true, true, 25, .build 25 #[(0, .tmp 88)]⟩,
      ⟨some 90, .some 85 true, true, 4, .call { callee := .value (.func 17), args := #[.tmp 87, .tmp 89], argTypes := #[25, 25] }⟩,
      ⟨some 91, .none, true, 4, .pick (.tmp 85) (.tmp 90) (.const (.bool false))⟩,
      ⟨some 92, .none, true, 4, .move (.tmp 91)⟩,
      ⟨some 93, .some 92 true, true, 25, .build 25 #[]⟩,
      ⟨some 94, .some 92 true, true, 25, .build 25 #[]⟩,
      ⟨some 95, .some 92 true, true, 4, .call { callee := .value (.func 17), args := #[.tmp 93, .tmp 94], argTypes := #[25, 25] }⟩,
      ⟨some 96, .none, true, 4, .pick (.tmp 92) (.tmp 95) (.const (.bool false))⟩,
      ⟨some 97, .none, true, 4, .move (.tmp 96)⟩,
      ⟨some 98, .some 97 true, true, 22, .buildSlice 22 1 #[(0, .const (.int .i64 1))]⟩,
      ⟨some 99, .some 97 true, true, 25, .build 25 #[(0, .tmp 98)]⟩,
      ⟨some 100, .some 97 true, true, 22, .buildSlice 22 2 #[(0, .const (.int .i64 1)), (1, .const (.int .i64 2))]⟩,
      ⟨some 101, .some 97 true, true, 25, .build 25 #[(0, .tmp 100)]⟩,
      ⟨some 102, .some 97 true, true, 4, .call { callee := .value (.func 17), args := #[.tmp 99, .tmp 101], argTypes := #[25, 25] }⟩,
      ⟨some 103, .some 97 true, true, 4, .unOp .not 4 (.tmp 102)⟩,
      ⟨some 104, .none, true, 4, .pick (.tmp 97) (.tmp 103) (.const (.bool false))⟩,
      ⟨some 105, .none, true, 4, .move (.tmp 104)⟩,
      ⟨some 106, .some 105 true, true, 22, .buildSlice 22 1 #[(0, .const (.int .i64 99))]⟩,
      ⟨some 107, .some 105 true, true, 25, .build 25 #[(0, .tmp 106)]⟩,
      ⟨some 108, .some 105 true, true, 22, .buildSlice 22 1 #[(0, .const (.int .i64 99))]⟩,
      ⟨some 109, .some 105 true, true, 25, .build 25 #[(0, .tmp 108)]⟩,
      ⟨some 110, .some 105 true, true, 4, .call { callee := .value (.func 17), args := #[.tmp 107, .tmp 109], argTypes := #[25, 25] }⟩,
      ⟨some 111, .none, true, 4, .pick (.tmp 105) (.tmp 110) (.const (.bool false))⟩,
      ⟨some 0, .none, true, 4, .assign (.tmp 111)⟩])
  .ret))))))))))))))
theorem t_reevelaw9_PathKnown : FnT Tryd.prog f_reevelaw9_PathKnown rc_reevelaw9_PathKnown [.tmp 0] 0 := ⟨⟨[], Tryd.f10, _, Tryd.func10, rfl, by kernel_rfl, by kernel_rfl, by kernel_rfl, rfl, by decide⟩, by kernel_rfl⟩
/-- reeve/reevelaw9.awake -/
abbrev f_reevelaw9_awake : FuncId := 12
def rc_reevelaw9_awake : RCode :=
  (.seq
    (.region [⟨some 0, .none, true, 4, .assign (.const (.bool false))⟩])
  (.keep []
  (.seq
    (.region [⟨some 4, .none, true, 22, .buildSlice 22 2 #[(0, .const (.int .i64 1)), (1, .const (.int .i64 12))]⟩,
      ⟨some 5, .none, true, 25, .build 25 #[(0, .tmp 4)]⟩,
      ⟨some 1, .none, true, 0, .alloc 25⟩,
      ⟨none, .none, true, 0, .store 25 (.tmp 1) (.tmp 5)⟩])
  (.keep [1]
  (.seq
    (.region [⟨some 7, .none, true, 25, .load 25 (.tmp 1)⟩,
      ⟨some 8, .none, true, 28, .call { callee := .value (.func 14), args := #[.tmp 7], argTypes := #[25] }⟩,
      ⟨some 6, .none, true, 28, .move (.tmp 8)⟩,
      ⟨some 9, .none, true, 27, .extract (.tmp 6) 0⟩,
      ⟨some 10, .none, true, 4, .extract (.tmp 6) 1⟩,
      ⟨some 2, .none, true, 27, .assign (.tmp 9)⟩,
      ⟨some 3, .none, true, 4, .assign (.tmp 10)⟩])
  (.keep [1, 2, 3]
  (.seq
    (.region [⟨some 11, .none, true, 25, .load 25 (.tmp 1)⟩,
      ⟨some 12, .none, true, 9, .call { callee := .value (.func 16), args := #[.tmp 11], argTypes := #[25] }⟩,
      ⟨some 13, .none, true, 4, .binOp .eql 9 (.tmp 12) (.const (.string { data := #[49, 46, 49, 50] })) 9⟩,
      ⟨some 14, .none, true, 4, .move (.tmp 13)⟩,
      ⟨some 15, .some 14 true, true, 4, .move (.tmp 3)⟩,
      ⟨some 16, .none, true, 4, .pick (.tmp 14) (.tmp 15) (.const (.bool false))⟩,
      ⟨some 17, .none, true, 4, .move (.tmp 16)⟩,
      ⟨some 18, .some 17 true, true, 27, .move (.tmp 2)⟩,
      ⟨some 19, .some 17 true, true, 4, .binOp .eql 27 (.tmp 18) (.const (.int .u64 3090)) 27⟩,
      ⟨some 20, .none, true, 4, .pick (.tmp 17) (.tmp 19) (.const (.bool false))⟩,
      ⟨some 21, .none, true, 4, .move (.tmp 20)⟩,
      ⟨some 22, .some 21 true, true, 25, .load 25 (.tmp 1)⟩,
      ⟨some 23, .some 21 true, true, 4, .call { callee := .value (.func 13), args := #[.tmp 22], argTypes := #[25] }⟩,
      ⟨some 24, .none, true, 4, .pick (.tmp 21) (.tmp 23) (.const (.bool false))⟩,
      ⟨some 0, .none, true, 4, .assign (.tmp 24)⟩])
  .ret)))))))
theorem t_reevelaw9_awake : FnT Tryd.prog f_reevelaw9_awake rc_reevelaw9_awake [.tmp 0] 0 := ⟨⟨[], Tryd.f12, _, Tryd.func12, rfl, by kernel_rfl, by kernel_rfl, by kernel_rfl, rfl, by decide⟩, by kernel_rfl⟩
/-- reeve/path.Good -/
abbrev f_path_Good : FuncId := 13
def rc_path_Good : RCode :=
  (.seq
    (.region [⟨some 1, .none, true, 0, .box 25 (.tmp 0)⟩,
      ⟨some 2, .none, true, 4, .assign (.const (.bool false))⟩])
  (.keep [1]
  (.seq
    (.region [⟨some 3, .none, true, 73, .assign (.func 42)⟩])
  (.keep [1, 3]
  (.seq
    (.region [⟨some 4, .none, true, 0, .fieldAddr 25 (.tmp 1) 0⟩,
      ⟨some 5, .none, true, 22, .load 22 (.tmp 4)⟩,
      ⟨some 6, .none, true, 3, .call { callee := .builtin .len, args := #[.tmp 5], argTypes := #[22] }⟩,
      ⟨some 7, .none, true, 4, .binOp .geq 3 (.tmp 6) (.const (.int .i64 1)) 3⟩,
      ⟨some 8, .none, true, 4, .move (.tmp 7)⟩,
      ⟨some 9, .some 8 true, true, 0, .fieldAddr 25 (.tmp 1) 0⟩,
      ⟨some 10, .some 8 true, true, 22, .load 22 (.tmp 9)⟩,
      ⟨some 11, .some 8 true, true, 3, .call { callee := .builtin .len, args := #[.tmp 10], argTypes := #[22] }⟩,
      ⟨some 12, .some 8 true, true, 4, .binOp .leq 3 (.tmp 11) (.const (.int .i64 3)) 3⟩,
      ⟨some 13, .none, true, 4, .pick (.tmp 8) (.tmp 12) (.const (.bool false))⟩,
      ⟨some 14, .none, true, 4, .move (.tmp 13)⟩,
      ⟨some 15, .some 14 true, true, 0, .fieldAddr 25 (.tmp 1) 0⟩,
      ⟨some 16, .some 14 true, true, 22, .load 22 (.tmp 15)⟩,
      ⟨some 17, .some 14 true, true, 73, .move (.tmp 3)⟩,
      ⟨some 18, .some 14 true, true, 4, .call { callee := .value (.func 43), args := #[.tmp 16, .tmp 17], argTypes := #[22, 73] }⟩,
      ⟨some 19, .some 14 true, true, 4, .unOp .not 4 (.tmp 18)⟩,
      ⟨some 20, .none, true, 4, .pick (.tmp 14) (.tmp 19) (.const (.bool false))⟩,
      ⟨some 2, .none, true, 4, .assign (.tmp 20)⟩])
  .ret)))))
theorem t_path_Good : FnT Tryd.prog f_path_Good rc_path_Good [.tmp 2] 1 := ⟨⟨[], Tryd.f13, _, Tryd.func13, rfl, by kernel_rfl, by kernel_rfl, by kernel_rfl, rfl, by decide⟩, by kernel_rfl⟩
/-- reeve/path.Word -/
abbrev f_path_Word : FuncId := 14
def rc_path_Wordl0 : RCode :=
  (.seq
    (.region [⟨some 18, .none, true, 0, .binOp .lss 3 (.tmp 17) (.tmp 16) 3⟩])
  (.keep [4, 15, 16, 17, 18]
  (.seq
    (.cond (.tmp 18)
      .skip
      (.exit 0))
  (.keep [4, 15, 16, 17]
  (.seq
    (.block 1
      (.seq
        (.region [⟨some 19, .none, true, 3, .move (.tmp 17)⟩,
          ⟨some 20, .none, true, 0, .indexAddr 22 (.tmp 15) (.tmp 17)⟩,
          ⟨some 21, .none, true, 3, .load 3 (.tmp 20)⟩,
          ⟨some 5, .none, true, 3, .assign (.tmp 19)⟩,
          ⟨some 6, .none, true, 3, .assign (.tmp 21)⟩])
      (.keep [4, 5, 6, 15, 16, 17]
      (.region [⟨some 22, .none, true, 27, .move (.tmp 4)⟩,
        ⟨some 23, .none, true, 3, .move (.tmp 6)⟩,
        ⟨some 24, .none, true, 27, .convert 3 27 (.tmp 23)⟩,
        ⟨some 25, .none, true, 3, .move (.tmp 5)⟩,
        ⟨some 26, .none, true, 3, .binOp .add 3 (.tmp 25) (.const (.int .i64 1)) 3⟩,
        ⟨some 27, .none, true, 3, .binOp .mul 3 (.const (.int .i64 4)) (.tmp 26) 3⟩,
        ⟨some 28, .none, true, 27, .binOp .shl 27 (.tmp 24) (.tmp 27) 3⟩,
        ⟨some 29, .none, true, 27, .binOp .or 27 (.tmp 22) (.tmp 28) 27⟩,
        ⟨some 4, .none, true, 27, .assign (.tmp 29)⟩]))))
  (.keep [4, 15, 16, 17]
  (.region [⟨some 30, .none, true, 3, .binOp .add 3 (.tmp 17) (.const (.int .i64 1)) 3⟩,
    ⟨some 17, .none, true, 3, .move (.tmp 30)⟩])))))))
def rc_path_Word : RCode :=
  (.seq
    (.region [⟨some 1, .none, true, 0, .box 25 (.tmp 0)⟩,
      ⟨some 2, .none, true, 27, .assign (.const (.int .u64 0))⟩,
      ⟨some 3, .none, true, 4, .assign (.const (.bool false))⟩])
  (.keep [1]
  (.seq
    (.seq
      (.region [⟨some 7, .none, true, 25, .load 25 (.tmp 1)⟩,
        ⟨some 8, .none, true, 4, .call { callee := .value (.func 13), args := #[.tmp 7], argTypes := #[25] }⟩,
        ⟨some 9, .none, true, 4, .unOp .not 4 (.tmp 8)⟩])
    (.keep [1, 9]
    (.cond (.tmp 9)
      (.seq
        (.region [⟨some 2, .none, true, 27, .assign (.const (.int .u64 0))⟩,
          ⟨some 3, .none, true, 4, .assign (.const (.bool false))⟩])
      .ret)
      .skip)))
  (.seq
    (.region [⟨some 10, .none, true, 0, .fieldAddr 25 (.tmp 1) 0⟩,
      ⟨some 11, .none, true, 22, .load 22 (.tmp 10)⟩,
      ⟨some 12, .none, true, 3, .call { callee := .builtin .len, args := #[.tmp 11], argTypes := #[22] }⟩,
      ⟨some 13, .none, true, 27, .convert 3 27 (.tmp 12)⟩,
      ⟨some 4, .none, true, 27, .assign (.tmp 13)⟩])
  (.keep [1, 4]
  (.seq
    (.seq
      (.region [⟨some 14, .none, true, 0, .fieldAddr 25 (.tmp 1) 0⟩,
        ⟨some 15, .none, true, 22, .load 22 (.tmp 14)⟩,
        ⟨some 16, .none, true, 3, .call { callee := .builtin .len, args := #[.tmp 15], argTypes := #[22] }⟩,
        ⟨some 17, .none, true, 3, .move (.const (.int .i64 0))⟩])
    (.keep [4, 15, 16, 17]
    (.block 0
      (.loop [4, 15, 16, 17] rc_path_Wordl0))))
  (.seq
    (.region [⟨some 31, .none, true, 27, .move (.tmp 4)⟩,
      ⟨some 2, .none, true, 27, .assign (.tmp 31)⟩,
      ⟨some 3, .none, true, 4, .assign (.const (.bool true))⟩])
  .ret)))))))
theorem t_path_Word : FnT Tryd.prog f_path_Word rc_path_Word [.tmp 2, .tmp 3] 1 := ⟨⟨[], Tryd.f14, _, Tryd.func14, rfl, by kernel_rfl, by kernel_rfl, by kernel_rfl, rfl, by decide⟩, by kernel_rfl⟩
/-- reeve/reevelaw9.ints -/
abbrev f_reevelaw9_ints : FuncId := 15
def rc_reevelaw9_intsl0 : RCode :=
  (.seq
    (.seq
      (.region [⟨some 11, .none, true, 3, .move (.tmp 5)⟩,
        ⟨some 12, .none, true, 22, .move (.tmp 0)⟩,
        ⟨some 13, .none, true, 3, .call { callee := .builtin .len, args := #[.tmp 12], argTypes := #[22] }⟩,
        ⟨some 14, .none, true, 4, .binOp .lss 3 (.tmp 11) (.tmp 13) 3⟩])
    (.keep [0, 1, 5, 14]
    (.cond (.tmp 14)
      .skip
      (.exit 0))))
  (.seq
    (.block 1
      (.seq
        (.region [⟨some 17, .none, false, 22, .move (.tmp 0)⟩,
          ⟨some 18, .none, false, 3, .move (.tmp 5)⟩,
          ⟨some 19, .none, false, 0, .indexAddr 22 (.tmp 17) (.tmp 18)⟩,
          ⟨some 20, .none, false, 3, .load 3 (.tmp 19)⟩,
          ⟨some 21, .none, false, 22, .move (.tmp 1)⟩,
          ⟨some 22, .none, false, 3, .move (.tmp 5)⟩,
          ⟨some 23, .none, false, 0, .indexAddr 22 (.tmp 21) (.tmp 22)⟩,
          ⟨some 24, .none, false, 3, .load 3 (.tmp 23)⟩,
          ⟨some 25, .none, true, 4, .binOp .neq 3 (.tmp 20) (.tmp 24) 3⟩])
      (.keep [0, 1, 5, 25]
      (.cond (.tmp 25)
        (.seq
          (.region [⟨some 4, .none, true, 4, .assign (.const (.bool false))⟩])
        .ret)
        .skip))))
  (.keep [0, 1, 5]
  (.region [⟨some 15, .none, true, 3, .move (.tmp 5)⟩,
    ⟨some 16, .none, true, 3, .binOp .add 3 (.tmp 15) (.const (.int .i64 1)) 3⟩,
    ⟨some 5, .none, true, 3, .assign (.tmp 16)⟩]))))
def rc_reevelaw9_ints : RCode :=
  (.seq
    (.region [⟨some 4, .none, true, 4, .assign (.const (.bool false))⟩])
  (.keep [0, 1]
  (.seq
    (.seq
      (.region [⟨some 6, .none, true, 22, .move (.tmp 0)⟩,
        ⟨some 7, .none, true, 3, .call { callee := .builtin .len, args := #[.tmp 6], argTypes := #[22] }⟩,
        ⟨some 8, .none, true, 22, .move (.tmp 1)⟩,
        ⟨some 9, .none, true, 3, .call { callee := .builtin .len, args := #[.tmp 8], argTypes := #[22] }⟩,
        ⟨some 10, .none, true, 4, .binOp .neq 3 (.tmp 7) (.tmp 9) 3⟩])
    (.keep [0, 1, 10]
    (.cond (.tmp 10)
      (.seq
        (.region [⟨some 4, .none, true, 4, .assign (.const (.bool false))⟩])
      .ret)
      .skip)))
  (.seq
    (.seq
      (.region [⟨some 5, .none, true, 3, .assign (.const (.int .i64 0))⟩])
    (.keep [0, 1, 5]
    (.block 0
      (.loop [0, 1, 5] rc_reevelaw9_intsl0))))
  (.seq
    (.region [⟨some 4, .none, true, 4, .assign (.const (.bool true))⟩])
  .ret)))))
theorem t_reevelaw9_ints : FnT Tryd.prog f_reevelaw9_ints rc_reevelaw9_ints [.tmp 4] 2 := ⟨⟨[], Tryd.f15, _, Tryd.func15, rfl, by kernel_rfl, by kernel_rfl, by kernel_rfl, rfl, by decide⟩, by kernel_rfl⟩
/-- reeve/path.Text -/
abbrev f_path_Text : FuncId := 16
def rc_path_Textl0 : RCode :=
  (.seq
    (.region [⟨some 13, .none, true, 0, .binOp .lss 3 (.tmp 12) (.tmp 11) 3⟩])
  (.keep [3, 10, 11, 12, 13]
  (.seq
    (.cond (.tmp 13)
      .skip
      (.exit 0))
  (.keep [3, 10, 11, 12]
  (.seq
    (.block 1
      (.seq
        (.region [⟨some 14, .none, true, 0, .indexAddr 22 (.tmp 10) (.tmp 12)⟩,
          ⟨some 15, .none, true, 3, .load 3 (.tmp 14)⟩,
          ⟨some 5, .none, true, 3, .assign (.tmp 15)⟩])
      (.keep [3, 5, 10, 11, 12]
      (.region [⟨some 16, .none, true, 65, .move (.tmp 3)⟩,
        ⟨some 17, .none, true, 3, .move (.tmp 5)⟩,
        ⟨some 18, .none, true, 9, .call { callee := .value (.func 44), args := #[.tmp 17], argTypes := #[3] }⟩,
        ⟨some 19, .none, true, 65, .buildSlice 65 1 #[(0, .tmp 18)]⟩,
        ⟨some 20, .none, true, 65, .call { callee := .builtin .append, args := #[.tmp 16, .tmp 19], argTypes := #[65, 65] }⟩,
        ⟨some 3, .none, true, 65, .assign (.tmp 20)⟩]))))
  (.keep [3, 10, 11, 12]
  (.region [⟨some 21, .none, true, 3, .binOp .add 3 (.tmp 12) (.const (.int .i64 1)) 3⟩,
    ⟨some 12, .none, true, 3, .move (.tmp 21)⟩])))))))
def rc_path_Text : RCode :=
  (.seq
    (.region [⟨some 1, .none, true, 0, .box 25 (.tmp 0)⟩,
      ⟨some 2, .none, true, 9, .assign (.const (.string { data := #[] }))⟩])
  (.keep [1]
  (.seq
    (.seq
      (.region [⟨some 6, .none, true, 25, .load 25 (.tmp 1)⟩,
        ⟨some 7, .none, true, 4, .call { callee := .value (.func 13), args := #[.tmp 6], argTypes := #[25] }⟩,
        ⟨some 8, .none, true, 4, .unOp .not 4 (.tmp 7)⟩])
    (.keep [1, 8]
    (.cond (.tmp 8)
      (.seq
        (.region [⟨some 2, .none, true, 9, .assign (.const (.string { data := #[] }))⟩])
      .ret)
      .skip)))
  (.seq
    (.region [⟨some 3, .none, true, 65, .assign (.const (.slice none 0 0))⟩])
  (.keep [1, 3]
  (.seq
    (.seq
      (.region [⟨some 9, .none, true, 0, .fieldAddr 25 (.tmp 1) 0⟩,
        ⟨some 10, .none, true, 22, .load 22 (.tmp 9)⟩,
        ⟨some 11, .none, true, 3, .call { callee := .builtin .len, args := #[.tmp 10], argTypes := #[22] }⟩,
        ⟨some 12, .none, true, 3, .move (.const (.int .i64 0))⟩])
    (.keep [3, 10, 11, 12]
    (.block 0
      (.loop [3, 10, 11, 12] rc_path_Textl0))))
  (.seq
    (.region [⟨some 22, .none, true, 65, .move (.tmp 3)⟩,
      ⟨some 23, .none, true, 9, .call { callee := .value (.func 45), args := #[.tmp 22, .const (.string { data := #[46] })], argTypes := #[65, 9] }⟩,
      ⟨some 2, .none, true, 9, .assign (.tmp 23)⟩])
  .ret)))))))
theorem t_path_Text : FnT Tryd.prog f_path_Text rc_path_Text [.tmp 2] 1 := ⟨⟨[], Tryd.f16, _, Tryd.func16, rfl, by kernel_rfl, by kernel_rfl, by kernel_rfl, rfl, by decide⟩, by kernel_rfl⟩
/-- reeve/path.Begins -/
abbrev f_path_Begins : FuncId := 17
def rc_path_Begins : RCode :=
  (.seq
    (.region [⟨some 2, .none, true, 0, .box 25 (.tmp 0)⟩,
      ⟨some 3, .none, true, 0, .box 25 (.tmp 1)⟩,
      ⟨some 4, .none, true, 4, .assign (.const (.bool false))⟩])
  (.keep [2, 3]
  (.seq
    (.region [⟨some 5, .none, false, 0, .fieldAddr 25 (.tmp 2) 0⟩,
      ⟨some 6, .none, false, 22, .load 22 (.tmp 5)⟩,
      ⟨some 7, .none, false, 3, .call { callee := .builtin .len, args := #[.tmp 6], argTypes := #[22] }⟩,
      ⟨some 8, .none, false, 0, .fieldAddr 25 (.tmp 3) 0⟩,
      ⟨some 9, .none, false, 22, .load 22 (.tmp 8)⟩,
      ⟨some 10, .none, false, 3, .call { callee := .builtin .len, args := #[.tmp 9], argTypes := #[22] }⟩,
      ⟨some 11, .none, true, 4, .binOp .geq 3 (.tmp 7) (.tmp 10) 3⟩,
      ⟨some 12, .none, true, 4, .move (.tmp 11)⟩,
      ⟨some 13, .some 12 true, false, 0, .fieldAddr 25 (.tmp 2) 0⟩,
      ⟨some 14, .some 12 true, false, 22, .load 22 (.tmp 13)⟩,
      ⟨some 15, .some 12 true, false, 0, .fieldAddr 25 (.tmp 3) 0⟩,
      ⟨some 16, .some 12 true, false, 22, .load 22 (.tmp 15)⟩,
      ⟨some 17, .some 12 true, false, 3, .call { callee := .builtin .len, args := #[.tmp 16], argTypes := #[22] }⟩,
      ⟨some 18, .some 12 true, false, 22, .slice 22 (.tmp 14) none (some (.tmp 17)) none⟩,
      ⟨some 19, .some 12 true, false, 0, .fieldAddr 25 (.tmp 3) 0⟩,
      ⟨some 20, .some 12 true, false, 22, .load 22 (.tmp 19)⟩,
      ⟨some 21, .some 12 true, true, 4, .call { callee := .value (.func 46), args := #[.tmp 18, .tmp 20], argTypes := #[22, 22] }⟩,
      ⟨some 22, .none, true, 4, .pick (.tmp 12) (.tmp 21) (.const (.bool false))⟩,
      ⟨some 4, .none, true, 4, .assign (.tmp 22)⟩])
  .ret)))
theorem t_path_Begins : FnT Tryd.prog f_path_Begins rc_path_Begins [.tmp 4] 2 := ⟨⟨[], Tryd.f17, _, Tryd.func17, rfl, by kernel_rfl, by kernel_rfl, by kernel_rfl, rfl, by decide⟩, by kernel_rfl⟩
/-- reeve/path.Get -/
abbrev f_path_Get : FuncId := 35
def rc_path_Getl0 : RCode :=
  (.seq
    (.region [⟨some 12, .none, true, 4, .binOp .lss 27 (.tmp 11) (.tmp 10) 27⟩])
  (.keep [0, 2, 4, 10, 11, 12]
  (.seq
    (.cond (.tmp 12)
      .skip
      (.exit 0))
  (.keep [0, 2, 4, 10, 11]
  (.seq
    (.block 1
      (.seq
        (.region [⟨some 13, .none, true, 27, .move (.tmp 11)⟩,
          ⟨some 5, .none, true, 27, .assign (.tmp 13)⟩])
      (.keep [0, 2, 4, 5, 10, 11]
      (.region [⟨some 14, .none, true, 0, .fieldAddr 25 (.tmp 4) 0⟩,
        ⟨some 15, .none, true, 22, .load 22 (.tmp 14)⟩,
        ⟨some 16, .none, true, 27, .move (.tmp 0)⟩,
        ⟨some 17, .none, true, 27, .move (.tmp 5)⟩,
        ⟨some 18, .none, true, 27, .binOp .add 27 (.tmp 17) (.const (.int .u64 1)) 27⟩,
        ⟨some 19, .none, true, 27, .binOp .mul 27 (.const (.int .u64 4)) (.tmp 18) 27⟩,
        ⟨some 20, .none, true, 27, .binOp .shr 27 (.tmp 16) (.tmp 19) 27⟩,
        ⟨some 21, .none, true, 27, .binOp .and 27 (.tmp 20) (.const (.int .u64 15)) 27⟩,
        ⟨some 22, .none, true, 3, .convert 27 3 (.tmp 21)⟩,
        ⟨some 23, .none, true, 22, .buildSlice 22 1 #[(0, .tmp 22)]⟩,
        ⟨some 24, .none, true, 22, .call { callee := .builtin .append, args := #[.tmp 15, .tmp 23], argTypes := #[22, 22] }⟩,
        ⟨some 25, .none, true, 0, .fieldAddr 25 (.tmp 4) 0⟩,
        ⟨none, .none, true, 0, .store 22 (.tmp 25) (.tmp 24)⟩]))))
  (.keep [0, 2, 4, 10, 11]
  (.region [⟨some 26, .none, true, 27, .binOp .add 27 (.tmp 11) (.const (.int .u64 1)) 27⟩,
    ⟨some 11, .none, true, 27, .move (.tmp 26)⟩])))))))
def rc_path_Get : RCode :=
  (.seq
    (.region [⟨some 2, .none, true, 0, .alloc 25⟩,
      ⟨some 3, .none, true, 4, .assign (.const (.bool false))⟩])
  (.keep [0, 2]
  (.seq
    (.region [⟨some 4, .none, true, 0, .alloc 25⟩])
  (.keep [0, 2, 4]
  (.seq
    (.seq
      (.region [⟨some 8, .none, true, 27, .move (.tmp 0)⟩,
        ⟨some 9, .none, true, 27, .binOp .and 27 (.tmp 8) (.const (.int .u64 15)) 27⟩,
        ⟨some 10, .none, true, 27, .call { callee := .builtin .min, args := #[.tmp 9, .const (.int .u64 3)], argTypes := #[27, 27] }⟩,
        ⟨some 11, .none, true, 27, .move (.const (.int .u64 0))⟩])
    (.keep [0, 2, 4, 10, 11]
    (.block 0
      (.loop [0, 2, 4, 10, 11] rc_path_Getl0))))
  (.seq
    (.seq
      (.region [⟨some 28, .none, true, 25, .load 25 (.tmp 4)⟩,
        ⟨some 29, .none, true, 28, .call { callee := .value (.func 14), args := #[.tmp 28], argTypes := #[25] }⟩,
        ⟨some 27, .none, true, 28, .move (.tmp 29)⟩,
        ⟨some 30, .none, true, 27, .extract (.tmp 27) 0⟩,
        ⟨some 31, .none, true, 4, .extract (.tmp 27) 1⟩,
        ⟨some 6, .none, true, 27, .assign (.tmp 30)⟩,
        ⟨some 7, .none, true, 4, .assign (.tmp 31)⟩])
    (.keep [0, 2, 4, 6, 7]
    (.seq
      (.region [⟨some 32, .none, true, 4, .move (.tmp 7)⟩,
        ⟨some 33, .none, true, 4, .unOp .not 4 (.tmp 32)⟩,
        ⟨some 34, .none, true, 4, .move (.tmp 33)⟩,
        ⟨some 35, .some 34 false, true, 27, .move (.tmp 6)⟩,
        ⟨some 36, .some 34 false, true, 27, .move (.tmp 0)⟩,
        ⟨some 37, .some 34 false, true, 4, .binOp .neq 27 (.tmp 35) (.tmp 36) 27⟩,
        ⟨some 38, .none, true, 4, .pick (.tmp 34) (.const (.bool true)) (.tmp 37)⟩])
    (.keep [2, 4, 38]
    (.cond (.tmp 38)
      (.seq
        (.region [⟨some 39, .none, true, 25, .build 25 #[]⟩,
          ⟨none, .none, true, 0, .store 25 (.tmp 2) (.tmp 39)⟩,
          ⟨some 3, .none, true, 4, .assign (.const (.bool false))⟩])
      .ret)
      .skip)))))
  (.seq
    (.region [⟨some 40, .none, true, 25, .load 25 (.tmp 4)⟩,
      ⟨none, .none, true, 0, .store 25 (.tmp 2) (.tmp 40)⟩,
      ⟨some 3, .none, true, 4, .assign (.const (.bool true))⟩])
  .ret)))))))
theorem t_path_Get : FnT Tryd.prog f_path_Get rc_path_Get [.cell 2 25, .tmp 3] 1 := ⟨⟨[], Tryd.f35, _, Tryd.func35, rfl, by kernel_rfl, by kernel_rfl, by kernel_rfl, rfl, by decide⟩, by kernel_rfl⟩
/-- reeve/path.Parse -/
abbrev f_path_Parse : FuncId := 36
def rc_path_Parsel0 : RCode :=
  (.seq
    (.region [⟨some 13, .none, true, 0, .binOp .lss 3 (.tmp 12) (.tmp 11) 3⟩])
  (.keep [0, 2, 4, 10, 11, 12, 13]
  (.seq
    (.cond (.tmp 13)
      .skip
      (.exit 0))
  (.keep [0, 2, 4, 10, 11, 12]
  (.seq
    (.block 1
      (.seq
        (.region [⟨some 14, .none, true, 0, .indexAddr 65 (.tmp 10) (.tmp 12)⟩,
          ⟨some 15, .none, true, 9, .load 9 (.tmp 14)⟩,
          ⟨some 6, .none, true, 9, .assign (.tmp 15)⟩])
      (.keep [0, 2, 4, 6, 10, 11, 12]
      (.seq
        (.region [⟨some 17, .none, true, 9, .move (.tmp 6)⟩,
          ⟨some 18, .none, true, 89, .call { callee := .value (.func 63), args := #[.tmp 17], argTypes := #[9] }⟩,
          ⟨some 16, .none, true, 89, .move (.tmp 18)⟩,
          ⟨some 19, .none, true, 3, .extract (.tmp 16) 0⟩,
          ⟨some 20, .none, true, 88, .extract (.tmp 16) 1⟩,
          ⟨some 7, .none, true, 3, .assign (.tmp 19)⟩,
          ⟨some 8, .none, true, 88, .assign (.tmp 20)⟩])
      (.keep [0, 2, 4, 7, 8, 10, 11, 12]
      (.seq
        (.seq
          (.region [⟨some 21, .none, true, 88, .move (.tmp 8)⟩,
            ⟨some 22, .none, true, 4, .binOp .neq 88 (.tmp 21) (.const .nilIface) 88⟩])
        (.keep [0, 2, 4, 7, 10, 11, 12, 22]
        (.cond (.tmp 22)
          (.seq
            (.region [⟨some 23, .none, true, 25, .build 25 #[]⟩,
              ⟨none, .none, true, 0, .store 25 (.tmp 2) (.tmp 23)⟩,
              ⟨some 3, .none, true, 4, .assign (.const (.bool false))⟩])
          .ret)
          .skip)))
      (.region [⟨some 24, .none, true, 0, .fieldAddr 25 (.tmp 4) 0⟩,
        ⟨some 25, .none, true, 22, .load 22 (.tmp 24)⟩,
        ⟨some 26, .none, true, 3, .move (.tmp 7)⟩,
        ⟨some 27, .none, true, 22, .buildSlice 22 1 #[(0, .tmp 26)]⟩,
        ⟨some 28, .none, true, 22, .call { callee := .builtin .append, args := #[.tmp 25, .tmp 27], argTypes := #[22, 22] }⟩,
        ⟨some 29, .none, true, 0, .fieldAddr 25 (.tmp 4) 0⟩,
        ⟨none, .none, true, 0, .store 22 (.tmp 29) (.tmp 28)⟩])))))))
  (.keep [0, 2, 4, 10, 11, 12]
  (.region [⟨some 30, .none, true, 3, .binOp .add 3 (.tmp 12) (.const (.int .i64 1)) 3⟩,
    ⟨some 12, .none, true, 3, .move (.tmp 30)⟩])))))))
def rc_path_Parse : RCode :=
  (.seq
    (.region [⟨some 2, .none, true, 0, .alloc 25⟩,
      ⟨some 3, .none, true, 4, .assign (.const (.bool false))⟩])
  (.keep [0, 2]
  (.seq
    (.region [⟨some 4, .none, true, 0, .alloc 25⟩])
  (.keep [0, 2, 4]
  (.seq
    (.seq
      (.region [⟨some 9, .none, true, 9, .move (.tmp 0)⟩,
        ⟨some 10, .none, true, 65, .call { callee := .value (.func 62), args := #[.tmp 9, .const (.string { data := #[46] }), .const (.int .i64 4)], argTypes := #[9, 9, 3] }⟩,
        ⟨some 11, .none, true, 3, .call { callee := .builtin .len, args := #[.tmp 10], argTypes := #[65] }⟩,
        ⟨some 12, .none, true, 3, .move (.const (.int .i64 0))⟩])
    (.keep [0, 2, 4, 10, 11, 12]
    (.block 0
      (.loop [0, 2, 4, 10, 11, 12] rc_path_Parsel0))))
  (.seq
    (.seq
      (.region [⟨some 31, .none, true, 9, .move (.tmp 0)⟩,
        ⟨some 32, .none, true, 4, .binOp .eql 9 (.tmp 31) (.const (.string { data := #[] })) 9⟩,
        ⟨some 33, .none, true, 4, .move (.tmp 32)⟩,
        ⟨some 34, .some 33 false, true, 25, .load 25 (.tmp 4)⟩,
        ⟨some 35, .some 33 false, true, 9, .call { callee := .value (.func 16), args := #[.tmp 34], argTypes := #[25] }⟩,
        ⟨some 36, .some 33 false, true, 9, .move (.tmp 0)⟩,
        ⟨some 37, .some 33 false, true, 4, .binOp .neq 9 (.tmp 35) (.tmp 36) 9⟩,
        ⟨some 38, .none, true, 4, .pick (.tmp 33) (.const (.bool true)) (.tmp 37)⟩])
    (.keep [2, 4, 38]
    (.cond (.tmp 38)
      (.seq
        (.region [⟨some 39, .none, true, 25, .build 25 #[]⟩,
          ⟨none, .none, true, 0, .store 25 (.tmp 2) (.tmp 39)⟩,
          ⟨some 3, .none, true, 4, .assign (.const (.bool false))⟩])
      .ret)
      .skip)))
  (.seq
    (.region [⟨some 40, .none, true, 25, .load 25 (.tmp 4)⟩,
      ⟨none, .none, true, 0, .store 25 (.tmp 2) (.tmp 40)⟩,
      ⟨some 3, .none, true, 4, .assign (.const (.bool true))⟩])
  .ret)))))))
theorem t_path_Parse : FnT Tryd.prog f_path_Parse rc_path_Parse [.cell 2 25, .tmp 3] 1 := ⟨⟨[], Tryd.f36, _, Tryd.func36, rfl, by kernel_rfl, by kernel_rfl, by kernel_rfl, rfl, by decide⟩, by kernel_rfl⟩
/-- reeve/path.Good$1 -/
abbrev f_path_Good_1 : FuncId := 42
def rc_path_Good_1 : RCode :=
  (.seq
    (.region [⟨some 2, .none, true, 4, .assign (.const (.bool false))⟩])
  (.keep [0]
  (.seq
    (.region [⟨some 3, .none, true, 3, .move (.tmp 0)⟩,
      ⟨some 4, .none, true, 4, .binOp .lss 3 (.tmp 3) (.const (.int .i64 0)) 3⟩,
      ⟨some 5, .none, true, 4, .move (.tmp 4)⟩,
      ⟨some 6, .some 5 false, true, 3, .move (.tmp 0)⟩,
      ⟨some 7, .some 5 false, true, 4, .binOp .gtr 3 (.tmp 6) (.const (.int .i64 15)) 3⟩,
      ⟨some 8, .none, true, 4, .pick (.tmp 5) (.const (.bool true)) (.tmp 7)⟩,
      ⟨some 2, .none, true, 4, .assign (.tmp 8)⟩])
  .ret)))
theorem t_path_Good_1 : FnT Tryd.prog f_path_Good_1 rc_path_Good_1 [.tmp 2] 1 := ⟨⟨[], Tryd.f42, _, Tryd.func42, rfl, by kernel_rfl, by kernel_rfl, by kernel_rfl, rfl, by decide⟩, by kernel_rfl⟩
/-- slices.ContainsFunc[[]int,int] -/
abbrev f_slices_ContainsFunc_S_int_int : FuncId := 43
def rc_slices_ContainsFunc_S_int_int : RCode :=
  (.seq
    (.region [⟨some 4, .none, true, 4, .assign (.const (.bool false))⟩])
  (.keep [0, 1]
  (.seq
    (.region [⟨some 5, .none, true, 22, .move (.tmp 0)⟩,
      ⟨some 6, .none, true, 73, .move (.tmp 1)⟩,
      ⟨some 7, .none, true, 3, .call { callee := .value (.func 64), args := #[.tmp 5, .tmp 6], argTypes := #[22, 73] }⟩,
      ⟨some 8, .none, true, 4, .binOp .geq 3 (.tmp 7) (.const (.int .i64 0)) 3⟩,
      ⟨some 4, .none, true, 4, .assign (.tmp 8)⟩])
  .ret)))
theorem t_slices_ContainsFunc_S_int_int : FnT Tryd.prog f_slices_ContainsFunc_S_int_int rc_slices_ContainsFunc_S_int_int [.tmp 4] 2 := ⟨⟨[], Tryd.f43, _, Tryd.func43, rfl, by kernel_rfl, by kernel_rfl, by kernel_rfl, rfl, by decide⟩, by kernel_rfl⟩
/-- strconv.Itoa -/
abbrev f_strconv_Itoa : FuncId := 44
def rc_strconv_Itoa : RCode :=
  (.seq
    (.region [⟨some 2, .none, true, 9, .assign (.const (.string { data := #[] }))⟩])
  (.keep [0]
  (.seq
    (.region [⟨some 3, .none, true, 3, .move (.tmp 0)⟩,
      ⟨some 4, .none, true, 9, .call { callee := .value (.func 65), args := #[.tmp 3], argTypes := #[3] }⟩,
      ⟨some 2, .none, true, 9, .assign (.tmp 4)⟩])
  .ret)))
theorem t_strconv_Itoa : FnT Tryd.prog f_strconv_Itoa rc_strconv_Itoa [.tmp 2] 1 := ⟨⟨[], Tryd.f44, _, Tryd.func44, rfl, by kernel_rfl, by kernel_rfl, by kernel_rfl, rfl, by decide⟩, by kernel_rfl⟩
/-- strings.Join -/
abbrev f_strings_Join : FuncId := 45
def rc_strings_Joinl0 : RCode :=
  (.seq
    (.region [⟨some 42, .none, true, 0, .binOp .lss 3 (.tmp 41) (.tmp 40) 3⟩])
  (.keep [0, 1, 5, 39, 40, 41, 42]
  (.seq
    (.cond (.tmp 42)
      .skip
      (.exit 1))
  (.keep [0, 1, 5, 39, 40, 41]
  (.seq
    (.block 2
      (.seq
        (.region [⟨some 43, .none, true, 0, .indexAddr 65 (.tmp 39) (.tmp 41)⟩,
          ⟨some 44, .none, true, 9, .load 9 (.tmp 43)⟩,
          ⟨some 7, .none, true, 9, .assign (.tmp 44)⟩])
      (.keep [0, 1, 5, 7, 39, 40, 41]
      (.seq
        (.seq
          (.region [⟨some 45, .none, true, 9, .move (.tmp 7)⟩,
            ⟨some 46, .none, true, 3, .call { callee := .builtin .len, args := #[.tmp 45], argTypes := #[9] }⟩,
            ⟨some 47, .none, true, 3, .move (.tmp 5)⟩,
            ⟨some 48, .none, true, 3, .binOp .sub 3 (.const (.int .i64 9223372036854775807)) (.tmp 47) 3⟩,
            ⟨some 49, .none, true, 4, .binOp .gtr 3 (.tmp 46) (.tmp 48) 3⟩])
        (.keep [0, 1, 5, 7, 39, 40, 41, 49]
        (.cond (.tmp 49)
          (.region [⟨some 50, .none, true, 20, .makeInterface 9 (.const (.string { data := #[115, 116, 114, 105, 110, 103, 115, 58, 32, 74, 111, 105, 110, 32, 111, 117, 116, 112, 117, 116, 32, 108, 101, 110, 103, 116, 104, 32, 111, 118, 101, 114, 102, 108, 111, 119] }))⟩,
            ⟨none, .none, true, 0, .panic (.tmp 50)⟩])
          .skip)))
      (.region [⟨some 51, .none, true, 3, .move (.tmp 5)⟩,
        ⟨some 52, .none, true, 9, .move (.tmp 7)⟩,
        ⟨some 53, .none, true, 3, .call { callee := .builtin .len, args := #[.tmp 52], argTypes := #[9] }⟩,
        ⟨some 54, .none, true, 3, .binOp .add 3 (.tmp 51) (.tmp 53) 3⟩,
        ⟨some 5, .none, true, 3, .assign (.tmp 54)⟩])))))
  (.keep [0, 1, 5, 39, 40, 41]
  (.region [⟨some 55, .none, true, 3, .binOp .add 3 (.tmp 41) (.const (.int .i64 1)) 3⟩,
    ⟨some 41, .none, true, 3, .move (.tmp 55)⟩])))))))
def rc_strings_Joinl1 : RCode :=
  (.seq
    (.region [⟨some 66, .none, true, 0, .binOp .lss 3 (.tmp 65) (.tmp 64) 3⟩])
  (.keep [1, 8, 63, 64, 65, 66]
  (.seq
    (.cond (.tmp 66)
      .skip
      (.exit 3))
  (.keep [1, 8, 63, 64, 65]
  (.seq
    (.block 4
      (.seq
        (.region [⟨some 67, .none, true, 0, .indexAddr 65 (.tmp 63) (.tmp 65)⟩,
          ⟨some 68, .none, true, 9, .load 9 (.tmp 67)⟩,
          ⟨some 10, .none, true, 9, .assign (.tmp 68)⟩])
      (.keep [1, 8, 10, 63, 64, 65]
      (.seq
        (.region [⟨some 69, .none, true, 9, .move (.tmp 1)⟩,
          ⟨some 70, .none, true, 89, .call { callee := .value (.func 67), args := #[.tmp 8, .tmp 69], argTypes := #[95, 9] }⟩])
      (.keep [1, 8, 10, 63, 64, 65]
      (.region [⟨some 71, .none, true, 9, .move (.tmp 10)⟩,
        ⟨some 72, .none, true, 89, .call { callee := .value (.func 67), args := #[.tmp 8, .tmp 71], argTypes := #[95, 9] }⟩]))))))
  (.keep [1, 8, 63, 64, 65]
  (.region [⟨some 73, .none, true, 3, .binOp .add 3 (.tmp 65) (.const (.int .i64 1)) 3⟩,
    ⟨some 65, .none, true, 3, .move (.tmp 73)⟩])))))))
def rc_strings_Join : RCode :=
  (.seq
    (.region [⟨some 4, .none, true, 9, .assign (.const (.string { data := #[] }))⟩])
  (.keep [0, 1]
  (.seq
    (.seq
      (.region [⟨some 11, .none, true, 65, .move (.tmp 0)⟩,
        ⟨some 12, .none, true, 3, .call { callee := .builtin .len, args := #[.tmp 11], argTypes := #[65] }⟩])
    (.keep [0, 1, 12]
    (.block 0
      (.seq
        (.region [⟨some 14, .none, true, 4, .binOp .eql 3 (.tmp 12) (.const (.int .i64 0)) 3⟩,
          ⟨some 13, .none, true, 4, .assign (.tmp 14)⟩])
      (.keep [0, 1, 12, 13]
      (.cond (.tmp 13)
        (.seq
          (.region [⟨some 4, .none, true, 9, .assign (.const (.string { data := #[] }))⟩])
        .ret)
        (.seq
          (.region [⟨some 16, .none, true, 4, .binOp .eql 3 (.tmp 12) (.const (.int .i64 1)) 3⟩,
            ⟨some 15, .none, true, 4, .assign (.tmp 16)⟩])
        (.keep [0, 1, 15]
        (.cond (.tmp 15)
          (.seq
            (.region [⟨some 17, .none, true, 65, .move (.tmp 0)⟩,
              ⟨some 18, .none, true, 0, .indexAddr 65 (.tmp 17) (.const (.int .i64 0))⟩,
              ⟨some 19, .none, true, 9, .load 9 (.tmp 18)⟩,
              ⟨some 4, .none, true, 9, .assign (.tmp 19)⟩])
          .ret)
          .skip)))))))))
  (.seq
    (.region [⟨some 5, .none, true, 3, .assign (.const (.int .i64 0))⟩])
  (.keep [0, 1, 5]
  (.seq
    (.seq
      (.region [⟨some 20, .none, true, 9, .move (.tmp 1)⟩,
        ⟨some 21, .none, true, 3, .call { callee := .builtin .len, args := #[.tmp 20], argTypes := #[9] }⟩,
        ⟨some 22, .none, true, 4, .binOp .gtr 3 (.tmp 21) (.const (.int .i64 0)) 3⟩])
    (.keep [0, 1, 5, 22]
    (.cond (.tmp 22)
      (.seq
        (.seq
          (.region [⟨some 23, .none, true, 9, .move (.tmp 1)⟩,
            ⟨some 24, .none, true, 3, .call { callee := .builtin .len, args := #[.tmp 23], argTypes := #[9] }⟩,
            ⟨some 25, .none, true, 65, .move (.tmp 0)⟩,
            ⟨some 26, .none, true, 3, .call { callee := .builtin .len, args := #[.tmp 25], argTypes := #[65] }⟩,
            ⟨some 27, .none, true, 3, .binOp .sub 3 (.tmp 26) (.const (.int .i64 1)) 3⟩,
            ⟨some 28, .none, true, 3, .binOp .quo 3 (.const (.int .i64 9223372036854775807)) (.tmp 27) 3⟩,
            ⟨some 29, .none, true, 4, .binOp .geq 3 (.tmp 24) (.tmp 28) 3⟩])
        (.keep [0, 1, 5, 29]
        (.cond (.tmp 29)
          (.region [⟨some 30, .none, true, 20, .makeInterface 9 (.const (.string { data := #[115, 116, 114, 105, 110, 103, 115, 58, 32, 74, 111, 105, 110, 32, 111, 117, 116, 112, 117, 116, 32, 108, 101, 110, 103, 116, 104, 32, 111, 118, 101, 114, 102, 108, 111, 119] }))⟩,
            ⟨none, .none, true, 0, .panic (.tmp 30)⟩])
          .skip)))
      (.region [⟨some 31, .none, true, 3, .move (.tmp 5)⟩,
        ⟨some 32, .none, true, 9, .move (.tmp 1)⟩,
        ⟨some 33, .none, true, 3, .call { callee := .builtin .len, args := #[.tmp 32], argTypes := #[9] }⟩,
        ⟨some 34, .none, true, 65, .move (.tmp 0)⟩,
        ⟨some 35, .none, true, 3, .call { callee := .builtin .len, args := #[.tmp 34], argTypes := #[65] }⟩,
        ⟨some 36, .none, true, 3, .binOp .sub 3 (.tmp 35) (.const (.int .i64 1)) 3⟩,
        ⟨some 37, .none, true, 3, .binOp .mul 3 (.tmp 33) (.tmp 36) 3⟩,
        ⟨some 38, .none, true, 3, .binOp .add 3 (.tmp 31) (.tmp 37) 3⟩,
        ⟨some 5, .none, true, 3, .assign (.tmp 38)⟩]))
      .skip)))
  (.seq
    (.seq
      (.region [⟨some 39, .none, true, 65, .move (.tmp 0)⟩,
        ⟨some 40, .none, true, 3, .call { callee := .builtin .len, args := #[.tmp 39], argTypes := #[65] }⟩,
        ⟨some 41, .none, true, 3, .move (.const (.int .i64 0))⟩])
    (.keep [0, 1, 5, 39, 40, 41]
    (.block 1
      (.loop [0, 1, 5, 39, 40, 41] rc_strings_Joinl0))))
  (.seq
    (.region [⟨some 8, .none, true, 0, .alloc 95⟩])
  (.keep [0, 1, 5, 8]
  (.seq
    (.region [⟨some 56, .none, true, 3, .move (.tmp 5)⟩,
      ⟨some 57, .none, true, 0, .call { callee := .value (.func 66), args := #[.tmp 8, .tmp 56], argTypes := #[95, 3] }⟩])
  (.keep [0, 1, 8]
  (.seq
    (.region [⟨some 58, .none, true, 65, .move (.tmp 0)⟩,
      ⟨some 59, .none, true, 0, .indexAddr 65 (.tmp 58) (.const (.int .i64 0))⟩,
      ⟨some 60, .none, true, 9, .load 9 (.tmp 59)⟩,
      ⟨some 61, .none, true, 89, .call { callee := .value (.func 67), args := #[.tmp 8, .tmp 60], argTypes := #[95, 9] }⟩])
  (.keep [0, 1, 8]
  (.seq
    (.seq
      (.region [⟨some 62, .none, true, 65, .move (.tmp 0)⟩,
        ⟨some 63, .none, true, 65, .slice 65 (.tmp 62) (some (.const (.int .i64 1))) none none⟩,
        ⟨some 64, .none, true, 3, .call { callee := .builtin .len, args := #[.tmp 63], argTypes := #[65] }⟩,
        ⟨some 65, .none, true, 3, .move (.const (.int .i64 0))⟩])
    (.keep [1, 8, 63, 64, 65]
    (.block 3
      (.loop [1, 8, 63, 64, 65] rc_strings_Joinl1))))
  (.seq
    (.region [⟨some 74, .none, true, 9, .call { callee := .value (.func 68), args := #[.tmp 8], argTypes := #[95] }⟩,
      ⟨some 4, .none, true, 9, .assign (.tmp 74)⟩])
  .ret)))))))))))))))
theorem t_strings_Join : FnT Tryd.prog f_strings_Join rc_strings_Join [.tmp 4] 2 := ⟨⟨[], Tryd.f45, _, Tryd.func45, rfl, by kernel_rfl, by kernel_rfl, by kernel_rfl, rfl, by decide⟩, by kernel_rfl⟩
/-- slices.Equal[[]int,int] -/
abbrev f_slices_Equal_S_int_int : FuncId := 46
def rc_slices_Equal_S_int_intl0 : RCode :=
  (.seq
    (.region [⟨some 14, .none, true, 0, .binOp .lss 3 (.tmp 13) (.tmp 12) 3⟩])
  (.keep [0, 1, 12, 13, 14]
  (.seq
    (.cond (.tmp 14)
      .skip
      (.exit 0))
  (.keep [0, 1, 12, 13]
  (.seq
    (.block 1
      (.seq
        (.region [⟨some 15, .none, true, 3, .move (.tmp 13)⟩,
          ⟨some 5, .none, true, 3, .assign (.tmp 15)⟩])
      (.keep [0, 1, 5, 12, 13]
      (.seq
        (.region [⟨some 16, .none, false, 22, .move (.tmp 0)⟩,
          ⟨some 17, .none, false, 3, .move (.tmp 5)⟩,
          ⟨some 18, .none, false, 0, .indexAddr 22 (.tmp 16) (.tmp 17)⟩,
          ⟨some 19, .none, false, 3, .load 3 (.tmp 18)⟩,
          ⟨some 20, .none, false, 22, .move (.tmp 1)⟩,
          ⟨some 21, .none, false, 3, .move (.tmp 5)⟩,
          ⟨some 22, .none, false, 0, .indexAddr 22 (.tmp 20) (.tmp 21)⟩,
          ⟨some 23, .none, false, 3, .load 3 (.tmp 22)⟩,
          ⟨some 24, .none, true, 4, .binOp .neq 3 (.tmp 19) (.tmp 23) 3⟩])
      (.keep [0, 1, 12, 13, 24]
      (.cond (.tmp 24)
        (.seq
          (.region [⟨some 4, .none, true, 4, .assign (.const (.bool false))⟩])
        .ret)
        .skip))))))
  (.keep [0, 1, 12, 13]
  (.region [⟨some 25, .none, true, 3, .binOp .add 3 (.tmp 13) (.const (.int .i64 1)) 3⟩,
    ⟨some 13, .none, true, 3, .move (.tmp 25)⟩])))))))
def rc_slices_Equal_S_int_int : RCode :=
  (.seq
    (.region [⟨some 4, .none, true, 4, .assign (.const (.bool false))⟩])
  (.keep [0, 1]
  (.seq
    (.seq
      (.region [⟨some 6, .none, true, 22, .move (.tmp 0)⟩,
        ⟨some 7, .none, true, 3, .call { callee := .builtin .len, args := #[.tmp 6], argTypes := #[22] }⟩,
        ⟨some 8, .none, true, 22, .move (.tmp 1)⟩,
        ⟨some 9, .none, true, 3, .call { callee := .builtin .len, args := #[.tmp 8], argTypes := #[22] }⟩,
        ⟨some 10, .none, true, 4, .binOp .neq 3 (.tmp 7) (.tmp 9) 3⟩])
    (.keep [0, 1, 10]
    (.cond (.tmp 10)
      (.seq
        (.region [⟨some 4, .none, true, 4, .assign (.const (.bool false))⟩])
      .ret)
      .skip)))
  (.seq
    (.seq
      (.region [⟨some 11, .none, true, 22, .move (.tmp 0)⟩,
        ⟨some 12, .none, true, 3, .call { callee := .builtin .len, args := #[.tmp 11], argTypes := #[22] }⟩,
        ⟨some 13, .none, true, 3, .move (.const (.int .i64 0))⟩])
    (.keep [0, 1, 12, 13]
    (.block 0
      (.loop [0, 1, 12, 13] rc_slices_Equal_S_int_intl0))))
  (.seq
    (.region [⟨some 4, .none, true, 4, .assign (.const (.bool true))⟩])
  .ret)))))
theorem t_slices_Equal_S_int_int : FnT Tryd.prog f_slices_Equal_S_int_int rc_slices_Equal_S_int_int [.tmp 4] 2 := ⟨⟨[], Tryd.f46, _, Tryd.func46, rfl, by kernel_rfl, by kernel_rfl, by kernel_rfl, rfl, by decide⟩, by kernel_rfl⟩
/-- strings.SplitN -/
abbrev f_strings_SplitN : FuncId := 62
def rc_strings_SplitN : RCode :=
  (.seq
    (.region [⟨some 6, .none, true, 65, .assign (.const (.slice none 0 0))⟩])
  (.keep [0, 1, 2]
  (.seq
    (.region [⟨some 7, .none, true, 9, .move (.tmp 0)⟩,
      ⟨some 8, .none, true, 9, .move (.tmp 1)⟩,
      ⟨some 9, .none, true, 3, .move (.tmp 2)⟩,
      ⟨some 10, .none, true, 65, .call { callee := .value (.func 76), args := #[.tmp 7, .tmp 8, .const (.int .i64 0), .tmp 9], argTypes := #[9, 9, 3, 3] }⟩,
      ⟨some 6, .none, true, 65, .assign (.tmp 10)⟩])
  .ret)))
theorem t_strings_SplitN : FnT Tryd.prog f_strings_SplitN rc_strings_SplitN [.tmp 6] 3 := ⟨⟨[], Tryd.f62, _, Tryd.func62, rfl, by kernel_rfl, by kernel_rfl, by kernel_rfl, rfl, by decide⟩, by kernel_rfl⟩
/-- strconv.Atoi -/
abbrev f_strconv_Atoi : FuncId := 63
def rc_strconv_Atoi : RCode :=
  (.seq
    (.region [⟨some 2, .none, true, 3, .assign (.const (.int .i64 0))⟩,
      ⟨some 3, .none, true, 88, .assign (.const .nilIface)⟩])
  (.keep [0]
  (.seq
    (.region [⟨some 7, .none, true, 9, .move (.tmp 0)⟩,
      ⟨some 8, .none, true, 89, .call { callee := .value (.func 77), args := #[.tmp 7], argTypes := #[9] }⟩,
      ⟨some 6, .none, true, 89, .move (.tmp 8)⟩,
      ⟨some 9, .none, true, 3, .extract (.tmp 6) 0⟩,
      ⟨some 10, .none, true, 88, .extract (.tmp 6) 1⟩,
      ⟨some 4, .none, true, 3, .assign (.tmp 9)⟩,
      ⟨some 5, .none, true, 88, .assign (.tmp 10)⟩])
  (.keep [0, 4, 5]
  (.seq
    (.seq
      (.region [⟨some 11, .none, true, 88, .move (.tmp 5)⟩,
        ⟨some 12, .none, true, 4, .binOp .neq 88 (.tmp 11) (.const .nilIface) 88⟩])
    (.keep [0, 4, 5, 12]
    (.cond (.tmp 12)
      (.seq
        (.region [⟨some 13, .none, true, 3, .move (.tmp 4)⟩,
          ⟨some 14, .none, true, 9, .move (.tmp 0)⟩,
          ⟨some 15, .none, true, 88, .move (.tmp 5)⟩,
          ⟨some 16, .none, true, 88, .call { callee := .value (.func 78), args := #[.const (.string { data := #[65, 116, 111, 105] }), .tmp 14, .const (.int .i64 0), .const (.int .i64 0), .tmp 15], argTypes := #[9, 9, 3, 3, 88] }⟩,
          ⟨some 2, .none, true, 3, .assign (.tmp 13)⟩,
          ⟨some 3, .none, true, 88, .assign (.tmp 16)⟩])
      .ret)
      .skip)))
  (.seq
    (.region [⟨some 17, .none, true, 3, .move (.tmp 4)⟩,
      ⟨some 2, .none, true, 3, .assign (.tmp 17)⟩,
      ⟨some 3, .none, true, 88, .assign (.const .nilIface)⟩])
  .ret))))))
theorem t_strconv_Atoi : FnT Tryd.prog f_strconv_Atoi rc_strconv_Atoi [.tmp 2, .tmp 3] 1 := ⟨⟨[], Tryd.f63, _, Tryd.func63, rfl, by kernel_rfl, by kernel_rfl, by kernel_rfl, rfl, by decide⟩, by kernel_rfl⟩
/-- slices.IndexFunc[[]int,int] -/
abbrev f_slices_IndexFunc_S_int_int : FuncId := 64
def rc_slices_IndexFunc_S_int_intl0 : RCode :=
  (.seq
    (.region [⟨some 9, .none, true, 0, .binOp .lss 3 (.tmp 8) (.tmp 7) 3⟩])
  (.keep [0, 1, 7, 8, 9]
  (.seq
    (.cond (.tmp 9)
      .skip
      (.exit 0))
  (.keep [0, 1, 7, 8]
  (.seq
    (.block 1
      (.seq
        (.region [⟨some 10, .none, true, 3, .move (.tmp 8)⟩,
          ⟨some 5, .none, true, 3, .assign (.tmp 10)⟩])
      (.keep [0, 1, 5, 7, 8]
      (.seq
        (.region [⟨some 11, .none, true, 73, .move (.tmp 1)⟩,
          ⟨some 12, .none, true, 22, .move (.tmp 0)⟩,
          ⟨some 13, .none, true, 3, .move (.tmp 5)⟩,
          ⟨some 14, .none, true, 0, .indexAddr 22 (.tmp 12) (.tmp 13)⟩,
          ⟨some 15, .none, true, 3, .load 3 (.tmp 14)⟩,
          ⟨some 16, .none, true, 4, .call { callee := .value (.tmp 11), args := #[.tmp 15], argTypes := #[3] }⟩])
      (.keep [0, 1, 5, 7, 8, 16]
      (.cond (.tmp 16)
        (.seq
          (.region [⟨some 17, .none, true, 3, .move (.tmp 5)⟩,
            ⟨some 4, .none, true, 3, .assign (.tmp 17)⟩])
        .ret)
        .skip))))))
  (.keep [0, 1, 7, 8]
  (.region [⟨some 18, .none, true, 3, .binOp .add 3 (.tmp 8) (.const (.int .i64 1)) 3⟩,
    ⟨some 8, .none, true, 3, .move (.tmp 18)⟩])))))))
def rc_slices_IndexFunc_S_int_int : RCode :=
  (.seq
    (.region [⟨some 4, .none, true, 3, .assign (.const (.int .i64 0))⟩])
  (.keep [0, 1]
  (.seq
    (.seq
      (.region [⟨some 6, .none, true, 22, .move (.tmp 0)⟩,
        ⟨some 7, .none, true, 3, .call { callee := .builtin .len, args := #[.tmp 6], argTypes := #[22] }⟩,
        ⟨some 8, .none, true, 3, .move (.const (.int .i64 0))⟩])
    (.keep [0, 1, 7, 8]
    (.block 0
      (.loop [0, 1, 7, 8] rc_slices_IndexFunc_S_int_intl0))))
  (.seq
    (.region [⟨some 4, .none, true, 3, .assign (.const (.int .i64 (-1)))⟩])
  .ret))))
theorem t_slices_IndexFunc_S_int_int : FnT Tryd.prog f_slices_IndexFunc_S_int_int rc_slices_IndexFunc_S_int_int [.tmp 4] 2 := ⟨⟨[], Tryd.f64, _, Tryd.func64, rfl, by kernel_rfl, by kernel_rfl, by kernel_rfl, rfl, by decide⟩, by kernel_rfl⟩
/-- internal/strconv.Itoa -/
abbrev f_internal_strconv_Itoa : FuncId := 65
def rc_internal_strconv_Itoa : RCode :=
  (.seq
    (.region [⟨some 2, .none, true, 9, .assign (.const (.string { data := #[] }))⟩])
  (.keep [0]
  (.seq
    (.region [⟨some 3, .none, true, 3, .move (.tmp 0)⟩,
      ⟨some 4, .none, true, 9, .call { callee := .value (.func 79), args := #[.tmp 3, .const (.int .i64 10)], argTypes := #[2, 3] }⟩,
      ⟨some 2, .none, true, 9, .assign (.tmp 4)⟩])
  .ret)))
theorem t_internal_strconv_Itoa : FnT Tryd.prog f_internal_strconv_Itoa rc_internal_strconv_Itoa [.tmp 2] 1 := ⟨⟨[], Tryd.f65, _, Tryd.func65, rfl, by kernel_rfl, by kernel_rfl, by kernel_rfl, rfl, by decide⟩, by kernel_rfl⟩
/-- (*strings.Builder).Grow -/
abbrev f_P_strings_Builder_Grow : FuncId := 66
def rc_P_strings_Builder_Grow : RCode :=
  (.seq
    (.region [⟨some 4, .none, true, 92, .move (.tmp 0)⟩,
      ⟨some 5, .none, true, 0, .call { callee := .value (.func 80), args := #[.tmp 4], argTypes := #[92] }⟩])
  (.keep [0, 1]
  (.seq
    (.seq
      (.region [⟨some 6, .none, true, 3, .move (.tmp 1)⟩,
        ⟨some 7, .none, true, 4, .binOp .lss 3 (.tmp 6) (.const (.int .i64 0)) 3⟩])
    (.keep [0, 1, 7]
    (.cond (.tmp 7)
      (.region [⟨some 8, .none, true, 20, .makeInterface 9 (.const (.string { data := #[115, 116, 114, 105, 110, 103, 115, 46, 66, 117, 105, 108, 100, 101, 114, 46, 71, 114, 111, 119, 58, 32, 110, 101, 103, 97, 116, 105, 118, 101, 32, 99, 111, 117, 110, 116] }))⟩,
        ⟨none, .none, true, 0, .panic (.tmp 8)⟩])
      .skip)))
  (.seq
    (.region [⟨some 9, .none, false, 92, .move (.tmp 0)⟩,
      ⟨some 10, .none, false, 0, .nilCheck (.tmp 9)⟩,
      ⟨some 11, .none, false, 0, .fieldAddr 95 (.tmp 10) 1⟩,
      ⟨some 12, .none, false, 93, .load 93 (.tmp 11)⟩,
      ⟨some 13, .none, false, 3, .call { callee := .builtin .cap, args := #[.tmp 12], argTypes := #[93] }⟩,
      ⟨some 14, .none, false, 92, .move (.tmp 0)⟩,
      ⟨some 15, .none, false, 0, .nilCheck (.tmp 14)⟩,
      ⟨some 16, .none, false, 0, .fieldAddr 95 (.tmp 15) 1⟩,
      ⟨some 17, .none, false, 93, .load 93 (.tmp 16)⟩,
      ⟨some 18, .none, false, 3, .call { callee := .builtin .len, args := #[.tmp 17], argTypes := #[93] }⟩,
      ⟨some 19, .none, true, 3, .binOp .sub 3 (.tmp 13) (.tmp 18) 3⟩,
      ⟨some 20, .none, false, 3, .move (.tmp 1)⟩,
      ⟨some 21, .none, true, 4, .binOp .lss 3 (.tmp 19) (.tmp 20) 3⟩])
  (.keep [0, 1, 21]
  (.cond (.tmp 21)
    (.region [⟨some 22, .none, true, 92, .move (.tmp 0)⟩,
      ⟨some 23, .none, true, 3, .move (.tmp 1)⟩,
      ⟨some 24, .none, true, 0, .call { callee := .value (.func 81), args := #[.tmp 22, .tmp 23], argTypes := #[92, 3] }⟩])
    .skip))))))
theorem t_P_strings_Builder_Grow : FnT Tryd.prog f_P_strings_Builder_Grow rc_P_strings_Builder_Grow [] 2 := ⟨⟨[], Tryd.f66, _, Tryd.func66, rfl, by kernel_rfl, by kernel_rfl, by kernel_rfl, rfl, by decide⟩, by kernel_rfl⟩
/-- (*strings.Builder).WriteString -/
abbrev f_P_strings_Builder_WriteString : FuncId := 67
def rc_P_strings_Builder_WriteString : RCode :=
  (.seq
    (.region [⟨some 4, .none, true, 3, .assign (.const (.int .i64 0))⟩,
      ⟨some 5, .none, true, 88, .assign (.const .nilIface)⟩])
  (.keep [0, 1]
  (.seq
    (.region [⟨some 6, .none, true, 92, .move (.tmp 0)⟩,
      ⟨some 7, .none, true, 0, .call { callee := .value (.func 80), args := #[.tmp 6], argTypes := #[92] }⟩])
  (.keep [0, 1]
  (.seq
    (.region [⟨some 8, .none, true, 92, .move (.tmp 0)⟩,
      ⟨some 9, .none, true, 92, .move (.tmp 0)⟩,
      ⟨some 10, .none, true, 0, .nilCheck (.tmp 9)⟩,
      ⟨some 11, .none, true, 0, .fieldAddr 95 (.tmp 10) 1⟩,
      ⟨some 12, .none, true, 93, .load 93 (.tmp 11)⟩,
      ⟨some 13, .none, true, 9, .move (.tmp 1)⟩,
      ⟨some 14, .none, true, 93, .call { callee := .builtin .append, args := #[.tmp 12, .tmp 13], argTypes := #[93, 9] }⟩,
      ⟨some 15, .none, true, 0, .nilCheck (.tmp 8)⟩,
      ⟨some 16, .none, true, 0, .fieldAddr 95 (.tmp 15) 1⟩,
      ⟨none, .none, true, 0, .store 93 (.tmp 16) (.tmp 14)⟩])
  (.keep [1]
  (.seq
    (.region [⟨some 17, .none, true, 9, .move (.tmp 1)⟩,
      ⟨some 18, .none, true, 3, .call { callee := .builtin .len, args := #[.tmp 17], argTypes := #[9] }⟩,
      ⟨some 4, .none, true, 3, .assign (.tmp 18)⟩,
      ⟨some 5, .none, true, 88, .assign (.const .nilIface)⟩])
  .ret)))))))
theorem t_P_strings_Builder_WriteString : FnT Tryd.prog f_P_strings_Builder_WriteString rc_P_strings_Builder_WriteString [.tmp 4, .tmp 5] 2 := ⟨⟨[], Tryd.f67, _, Tryd.func67, rfl, by kernel_rfl, by kernel_rfl, by kernel_rfl, rfl, by decide⟩, by kernel_rfl⟩
/-- (*strings.Builder).String -/
abbrev f_P_strings_Builder_String : FuncId := 68
def rc_P_strings_Builder_String : RCode :=
  (.seq
    (.region [⟨some 2, .none, true, 9, .assign (.const (.string { data := #[] }))⟩])
  (.keep [0]
  (.seq
    (.region [⟨some 3, .none, false, 92, .move (.tmp 0)⟩,
      ⟨some 4, .none, false, 0, .nilCheck (.tmp 3)⟩,
      ⟨some 5, .none, false, 0, .fieldAddr 95 (.tmp 4) 1⟩,
      ⟨some 6, .none, false, 93, .load 93 (.tmp 5)⟩,
      ⟨some 7, .none, false, 107, .call { callee := .builtin .unsafeSliceData, args := #[.tmp 6], argTypes := #[93] }⟩,
      ⟨some 8, .none, false, 92, .move (.tmp 0)⟩,
      ⟨some 9, .none, false, 0, .nilCheck (.tmp 8)⟩,
      ⟨some 10, .none, false, 0, .fieldAddr 95 (.tmp 9) 1⟩,
      ⟨some 11, .none, false, 93, .load 93 (.tmp 10)⟩,
      ⟨some 12, .none, false, 3, .call { callee := .builtin .len, args := #[.tmp 11], argTypes := #[93] }⟩,
      ⟨some 13, .none, true, 9, .call { callee := .builtin .unsafeString, args := #[.tmp 7, .tmp 12], argTypes := #[107, 3] }⟩,
      ⟨some 2, .none, true, 9, .assign (.tmp 13)⟩])
  .ret)))
theorem t_P_strings_Builder_String : FnT Tryd.prog f_P_strings_Builder_String rc_P_strings_Builder_String [.tmp 2] 1 := ⟨⟨[], Tryd.f68, _, Tryd.func68, rfl, by kernel_rfl, by kernel_rfl, by kernel_rfl, rfl, by decide⟩, by kernel_rfl⟩
/-- strings.genSplit -/
abbrev f_strings_genSplit : FuncId := 76
def rc_strings_genSplitl0 : RCode :=
  (.seq
    (.seq
      (.region [⟨some 34, .none, true, 3, .move (.tmp 10)⟩,
        ⟨some 35, .none, true, 3, .move (.tmp 3)⟩,
        ⟨some 36, .none, true, 4, .binOp .lss 3 (.tmp 34) (.tmp 35) 3⟩])
    (.keep [0, 1, 2, 3, 9, 10, 36]
    (.cond (.tmp 36)
      .skip
      (.exit 0))))
  (.block 1
    (.seq
      (.region [⟨some 37, .none, true, 9, .move (.tmp 0)⟩,
        ⟨some 38, .none, true, 9, .move (.tmp 1)⟩,
        ⟨some 39, .none, true, 3, .call { callee := .value (.func 84), args := #[.tmp 37, .tmp 38], argTypes := #[9, 9] }⟩,
        ⟨some 11, .none, true, 3, .assign (.tmp 39)⟩])
    (.keep [0, 1, 2, 3, 9, 10, 11]
    (.seq
      (.seq
        (.region [⟨some 40, .none, true, 3, .move (.tmp 11)⟩,
          ⟨some 41, .none, true, 4, .binOp .lss 3 (.tmp 40) (.const (.int .i64 0)) 3⟩])
      (.keep [0, 1, 2, 3, 9, 10, 11, 41]
      (.cond (.tmp 41)
        (.exit 0)
        .skip)))
    (.seq
      (.region [⟨some 42, .none, true, 65, .move (.tmp 9)⟩,
        ⟨some 43, .none, true, 3, .move (.tmp 10)⟩,
        ⟨some 44, .none, true, 9, .move (.tmp 0)⟩,
        ⟨some 45, .none, true, 3, .move (.tmp 11)⟩,
        ⟨some 46, .none, true, 3, .move (.tmp 2)⟩,
        ⟨some 47, .none, true, 3, .binOp .add 3 (.tmp 45) (.tmp 46) 3⟩,
        ⟨some 48, .none, true, 9, .slice 9 (.tmp 44) none (some (.tmp 47)) none⟩,
        ⟨some 49, .none, true, 0, .indexAddr 65 (.tmp 42) (.tmp 43)⟩,
        ⟨none, .none, true, 0, .store 9 (.tmp 49) (.tmp 48)⟩])
    (.keep [0, 1, 2, 3, 9, 10, 11]
    (.seq
      (.region [⟨some 50, .none, true, 9, .move (.tmp 0)⟩,
        ⟨some 51, .none, true, 3, .move (.tmp 11)⟩,
        ⟨some 52, .none, true, 9, .move (.tmp 1)⟩,
        ⟨some 53, .none, true, 3, .call { callee := .builtin .len, args := #[.tmp 52], argTypes := #[9] }⟩,
        ⟨some 54, .none, true, 3, .binOp .add 3 (.tmp 51) (.tmp 53) 3⟩,
        ⟨some 55, .none, true, 9, .slice 9 (.tmp 50) (some (.tmp 54)) none none⟩,
        ⟨some 0, .none, true, 9, .assign (.tmp 55)⟩])
    (.keep [0, 1, 2, 3, 9, 10]
    (.region [⟨some 56, .none, true, 3, .move (.tmp 10)⟩,
      ⟨some 57, .none, true, 3, .binOp .add 3 (.tmp 56) (.const (.int .i64 1)) 3⟩,
      ⟨some 10, .none, true, 3, .assign (.tmp 57)⟩]))))))))))
def rc_strings_genSplit : RCode :=
  (.seq
    (.region [⟨some 8, .none, true, 65, .assign (.const (.slice none 0 0))⟩])
  (.keep [0, 1, 2, 3]
  (.seq
    (.seq
      (.region [⟨some 12, .none, true, 3, .move (.tmp 3)⟩,
        ⟨some 13, .none, true, 4, .binOp .eql 3 (.tmp 12) (.const (.int .i64 0)) 3⟩])
    (.keep [0, 1, 2, 3, 13]
    (.cond (.tmp 13)
      (.seq
        (.region [⟨some 8, .none, true, 65, .assign (.const (.slice none 0 0))⟩])
      .ret)
      .skip)))
  (.seq
    (.seq
      (.region [⟨some 14, .none, true, 9, .move (.tmp 1)⟩,
        ⟨some 15, .none, true, 4, .binOp .eql 9 (.tmp 14) (.const (.string { data := #[] })) 9⟩])
    (.keep [0, 1, 2, 3, 15]
    (.cond (.tmp 15)
      (.seq
        (.region [⟨some 16, .none, true, 9, .move (.tmp 0)⟩,
          ⟨some 17, .none, true, 3, .move (.tmp 3)⟩,
          ⟨some 18, .none, true, 65, .call { callee := .value (.func 82), args := #[.tmp 16, .tmp 17], argTypes := #[9, 3] }⟩,
          ⟨some 8, .none, true, 65, .assign (.tmp 18)⟩])
      .ret)
      .skip)))
  (.seq
    (.seq
      (.region [⟨some 19, .none, true, 3, .move (.tmp 3)⟩,
        ⟨some 20, .none, true, 4, .binOp .lss 3 (.tmp 19) (.const (.int .i64 0)) 3⟩])
    (.keep [0, 1, 2, 3, 20]
    (.cond (.tmp 20)
      (.region [⟨some 21, .none, true, 9, .move (.tmp 0)⟩,
        ⟨some 22, .none, true, 9, .move (.tmp 1)⟩,
        ⟨some 23, .none, true, 3, .call { callee := .value (.func 83), args := #[.tmp 21, .tmp 22], argTypes := #[9, 9] }⟩,
        ⟨some 24, .none, true, 3, .binOp .add 3 (.tmp 23) (.const (.int .i64 1)) 3⟩,
        ⟨some 3, .none, true, 3, .assign (.tmp 24)⟩])
      .skip)))
  (.seq
    (.region [⟨some 25, .none, true, 3, .move (.tmp 3)⟩,
      ⟨some 26, .none, true, 9, .move (.tmp 0)⟩,
      ⟨some 27, .none, true, 3, .call { callee := .builtin .len, args := #[.tmp 26], argTypes := #[9] }⟩,
      ⟨some 28, .none, true, 3, .binOp .add 3 (.tmp 27) (.const (.int .i64 1)) 3⟩,
      ⟨some 29, .none, true, 3, .call { callee := .builtin .min, args := #[.tmp 25, .tmp 28], argTypes := #[3, 3] }⟩,
      ⟨some 3, .none, true, 3, .assign (.tmp 29)⟩])
  (.keep [0, 1, 2, 3]
  (.seq
    (.region [⟨some 30, .none, true, 3, .move (.tmp 3)⟩,
      ⟨some 31, .none, true, 65, .makeSlice 65 (.tmp 30) (.tmp 30)⟩,
      ⟨some 9, .none, true, 65, .assign (.tmp 31)⟩])
  (.keep [0, 1, 2, 3, 9]
  (.seq
    (.region [⟨some 32, .none, true, 3, .move (.tmp 3)⟩,
      ⟨some 33, .none, true, 3, .binOp .sub 3 (.tmp 32) (.const (.int .i64 1)) 3⟩,
      ⟨some 3, .none, true, 3, .assign (.tmp 33)⟩])
  (.keep [0, 1, 2, 3, 9]
  (.seq
    (.region [⟨some 10, .none, true, 3, .assign (.const (.int .i64 0))⟩])
  (.keep [0, 1, 2, 3, 9, 10]
  (.seq
    (.block 0
      (.loop [0, 1, 2, 3, 9, 10] rc_strings_genSplitl0))
  (.keep [0, 9, 10]
  (.seq
    (.region [⟨some 58, .none, true, 65, .move (.tmp 9)⟩,
      ⟨some 59, .none, true, 3, .move (.tmp 10)⟩,
      ⟨some 60, .none, true, 9, .move (.tmp 0)⟩,
      ⟨some 61, .none, true, 0, .indexAddr 65 (.tmp 58) (.tmp 59)⟩,
      ⟨none, .none, true, 0, .store 9 (.tmp 61) (.tmp 60)⟩])
  (.keep [9, 10]
  (.seq
    (.region [⟨some 62, .none, true, 65, .move (.tmp 9)⟩,
      ⟨some 63, .none, true, 3, .move (.tmp 10)⟩,
      ⟨some 64, .none, true, 3, .binOp .add 3 (.tmp 63) (.const (.int .i64 1)) 3⟩,
      ⟨some 65, .none, true, 65, .slice 65 (.tmp 62) none (some (.tmp 64)) none⟩,
      ⟨some 8, .none, true, 65, .assign (.tmp 65)⟩])
  .ret))))))))))))))))))
theorem t_strings_genSplit : FnT Tryd.prog f_strings_genSplit rc_strings_genSplit [.tmp 8] 4 := ⟨⟨[], Tryd.f76, _, Tryd.func76, rfl, by kernel_rfl, by kernel_rfl, by kernel_rfl, rfl, by decide⟩, by kernel_rfl⟩
/-- internal/strconv.Atoi -/
abbrev f_internal_strconv_Atoi : FuncId := 77
def rc_internal_strconv_Atoil0 : RCode :=
  (.seq
    (.region [⟨some 50, .none, true, 0, .binOp .lss 3 (.tmp 49) (.tmp 48) 3⟩])
  (.keep [5, 6, 47, 48, 49, 50]
  (.seq
    (.cond (.tmp 50)
      .skip
      (.exit 0))
  (.keep [5, 6, 47, 48, 49]
  (.seq
    (.block 1
      (.seq
        (.region [⟨some 51, .none, true, 0, .indexAddr 93 (.tmp 47) (.tmp 49)⟩,
          ⟨some 52, .none, true, 5, .load 5 (.tmp 51)⟩,
          ⟨some 8, .none, true, 5, .assign (.tmp 52)⟩])
      (.keep [5, 6, 8, 47, 48, 49]
      (.seq
        (.region [⟨some 53, .none, true, 5, .move (.tmp 8)⟩,
          ⟨some 54, .none, true, 5, .binOp .sub 5 (.tmp 53) (.const (.int .u8 48)) 5⟩,
          ⟨some 8, .none, true, 5, .assign (.tmp 54)⟩])
      (.keep [5, 6, 8, 47, 48, 49]
      (.seq
        (.seq
          (.region [⟨some 55, .none, true, 5, .move (.tmp 8)⟩,
            ⟨some 56, .none, true, 4, .binOp .gtr 5 (.tmp 55) (.const (.int .u8 9)) 5⟩])
        (.keep [5, 6, 8, 47, 48, 49, 56]
        (.cond (.tmp 56)
          (.seq
            (.region [⟨some 57, .none, true, 88, .makeInterface 110 (.const (.int .i64 2))⟩,
              ⟨some 2, .none, true, 3, .assign (.const (.int .i64 0))⟩,
              ⟨some 3, .none, true, 88, .assign (.tmp 57)⟩])
          .ret)
          .skip)))
      (.region [⟨some 58, .none, true, 3, .move (.tmp 6)⟩,
        ⟨some 59, .none, true, 3, .binOp .mul 3 (.tmp 58) (.const (.int .i64 10)) 3⟩,
        ⟨some 60, .none, true, 5, .move (.tmp 8)⟩,
        ⟨some 61, .none, true, 3, .convert 5 3 (.tmp 60)⟩,
        ⟨some 62, .none, true, 3, .binOp .add 3 (.tmp 59) (.tmp 61) 3⟩,
        ⟨some 6, .none, true, 3, .assign (.tmp 62)⟩])))))))
  (.keep [5, 6, 47, 48, 49]
  (.region [⟨some 63, .none, true, 3, .binOp .add 3 (.tmp 49) (.const (.int .i64 1)) 3⟩,
    ⟨some 49, .none, true, 3, .move (.tmp 63)⟩])))))))
def rc_internal_strconv_Atoi : RCode :=
  (.seq
    (.region [⟨some 2, .none, true, 3, .assign (.const (.int .i64 0))⟩,
      ⟨some 3, .none, true, 88, .assign (.const .nilIface)⟩])
  (.keep [0]
  (.seq
    (.region [⟨some 11, .none, true, 9, .move (.tmp 0)⟩,
      ⟨some 12, .none, true, 3, .call { callee := .builtin .len, args := #[.tmp 11], argTypes := #[9] }⟩,
      ⟨some 4, .none, true, 3, .assign (.tmp 12)⟩])
  (.keep [0, 4]
  (.seq
    (.seq
      (.region [⟨some 13, .none, true, 4, .move (.const (.bool false))⟩,
        ⟨some 14, .some 13 true, true, 3, .move (.tmp 4)⟩,
        ⟨some 15, .some 13 true, true, 4, .binOp .lss 3 (.const (.int .i64 0)) (.tmp 14) 3⟩,
        ⟨some 16, .some 13 true, true, 4, .move (.tmp 15)⟩,
        ⟨some 17, .some 16 true, true, 3, .move (.tmp 4)⟩,
        ⟨some 18, .some 16 true, true, 4, .binOp .lss 3 (.tmp 17) (.const (.int .i64 10)) 3⟩,
        ⟨some 19, .some 13 true, true, 4, .pick (.tmp 16) (.tmp 18) (.const (.bool false))⟩,
        ⟨some 20, .none, true, 4, .pick (.tmp 13) (.tmp 19) (.const (.bool false))⟩,
        ⟨some 21, .none, true, 4, .move (.tmp 20)⟩,
        ⟨some 22, .some 21 false, true, 4, .move (.const (.bool true))⟩,
        ⟨some 23, .some 22 true, true, 3, .move (.tmp 4)⟩,
        ⟨some 24, .some 22 true, true, 4, .binOp .lss 3 (.const (.int .i64 0)) (.tmp 23) 3⟩,
        ⟨some 25, .some 22 true, true, 4, .move (.tmp 24)⟩,
        ⟨some 26, .some 25 true, true, 3, .move (.tmp 4)⟩,
        ⟨some 27, .some 25 true, true, 4, .binOp .lss 3 (.tmp 26) (.const (.int .i64 19)) 3⟩,
        ⟨some 28, .some 22 true, true, 4, .pick (.tmp 25) (.tmp 27) (.const (.bool false))⟩,
        ⟨some 29, .some 21 false, true, 4, .pick (.tmp 22) (.tmp 28) (.const (.bool false))⟩,
        ⟨some 30, .none, true, 4, .pick (.tmp 21) (.const (.bool true)) (.tmp 29)⟩])
    (.keep [0, 30]
    (.cond (.tmp 30)
      (.seq
        (.region [⟨some 31, .none, true, 9, .move (.tmp 0)⟩,
          ⟨some 5, .none, true, 9, .assign (.tmp 31)⟩])
      (.keep [0, 5]
      (.seq
        (.seq
          (.region [⟨some 32, .none, true, 9, .move (.tmp 0)⟩,
            ⟨some 33, .none, true, 5, .index 9 (.tmp 32) (.const (.int .i64 0))⟩,
            ⟨some 34, .none, true, 4, .binOp .eql 5 (.tmp 33) (.const (.int .u8 45)) 5⟩,
            ⟨some 35, .none, true, 4, .move (.tmp 34)⟩,
            ⟨some 36, .some 35 false, true, 9, .move (.tmp 0)⟩,
            ⟨some 37, .some 35 false, true, 5, .index 9 (.tmp 36) (.const (.int .i64 0))⟩,
            ⟨some 38, .some 35 false, true, 4, .binOp .eql 5 (.tmp 37) (.const (.int .u8 43)) 5⟩,
            ⟨some 39, .none, true, 4, .pick (.tmp 35) (.const (.bool true)) (.tmp 38)⟩])
        (.keep [0, 5, 39]
        (.cond (.tmp 39)
          (.seq
            (.region [⟨some 40, .none, true, 9, .move (.tmp 0)⟩,
              ⟨some 41, .none, true, 9, .slice 9 (.tmp 40) (some (.const (.int .i64 1))) none none⟩,
              ⟨some 0, .none, true, 9, .assign (.tmp 41)⟩])
          (.keep [0, 5]
          (.seq
            (.region [⟨some 42, .none, true, 9, .move (.tmp 0)⟩,
              ⟨some 43, .none, true, 3, .call { callee := .builtin .len, args := #[.tmp 42], argTypes := #[9] }⟩,
              ⟨some 44, .none, true, 4, .binOp .lss 3 (.tmp 43) (.const (.int .i64 1)) 3⟩])
          (.keep [0, 5, 44]
          (.cond (.tmp 44)
            (.seq
              (.region [⟨some 45, .none, true, 88, .makeInterface 110 (.const (.int .i64 2))⟩,
                ⟨some 2, .none, true, 3, .assign (.const (.int .i64 0))⟩,
                ⟨some 3, .none, true, 88, .assign (.tmp 45)⟩])
            .ret)
            .skip)))))
          .skip)))
      (.seq
        (.region [⟨some 6, .none, true, 3, .assign (.const (.int .i64 0))⟩])
      (.keep [0, 5, 6]
      (.seq
        (.seq
          (.region [⟨some 46, .none, true, 9, .move (.tmp 0)⟩,
            ⟨some 47, .none, true, 93, .convert 9 93 (.tmp 46)⟩,
            ⟨some 48, .none, true, 3, .call { callee := .builtin .len, args := #[.tmp 47], argTypes := #[93] }⟩,
            ⟨some 49, .none, true, 3, .move (.const (.int .i64 0))⟩])
        (.keep [5, 6, 47, 48, 49]
        (.block 0
          (.loop [5, 6, 47, 48, 49] rc_internal_strconv_Atoil0))))
      (.seq
        (.seq
          (.region [⟨some 64, .none, true, 9, .move (.tmp 5)⟩,
            ⟨some 65, .none, true, 5, .index 9 (.tmp 64) (.const (.int .i64 0))⟩,
            ⟨some 66, .none, true, 4, .binOp .eql 5 (.tmp 65) (.const (.int .u8 45)) 5⟩])
        (.keep [6, 66]
        (.cond (.tmp 66)
          (.region [⟨some 67, .none, true, 3, .move (.tmp 6)⟩,
            ⟨some 68, .none, true, 3, .unOp .neg 3 (.tmp 67)⟩,
            ⟨some 6, .none, true, 3, .assign (.tmp 68)⟩])
          .skip)))
      (.seq
        (.region [⟨some 69, .none, true, 3, .move (.tmp 6)⟩,
          ⟨some 2, .none, true, 3, .assign (.tmp 69)⟩,
          ⟨some 3, .none, true, 88, .assign (.const .nilIface)⟩])
      .ret))))))))
      .skip)))
  (.seq
    (.region [⟨some 71, .none, true, 9, .move (.tmp 0)⟩,
      ⟨some 72, .none, true, 111, .call { callee := .value (.func 85), args := #[.tmp 71, .const (.int .i64 10), .const (.int .i64 0)], argTypes := #[9, 3, 3] }⟩,
      ⟨some 70, .none, true, 111, .move (.tmp 72)⟩,
      ⟨some 73, .none, true, 2, .extract (.tmp 70) 0⟩,
      ⟨some 74, .none, true, 88, .extract (.tmp 70) 1⟩,
      ⟨some 9, .none, true, 2, .assign (.tmp 73)⟩,
      ⟨some 10, .none, true, 88, .assign (.tmp 74)⟩])
  (.keep [9, 10]
  (.seq
    (.region [⟨some 75, .none, true, 2, .move (.tmp 9)⟩,
      ⟨some 76, .none, true, 88, .move (.tmp 10)⟩,
      ⟨some 2, .none, true, 3, .assign (.tmp 75)⟩,
      ⟨some 3, .none, true, 88, .assign (.tmp 76)⟩])
  .ret))))))))
theorem t_internal_strconv_Atoi : FnT Tryd.prog f_internal_strconv_Atoi rc_internal_strconv_Atoi [.tmp 2, .tmp 3] 1 := ⟨⟨[], Tryd.f77, _, Tryd.func77, rfl, by kernel_rfl, by kernel_rfl, by kernel_rfl, rfl, by decide⟩, by kernel_rfl⟩
/-- strconv.toError -/
abbrev f_strconv_toError : FuncId := 78
def rc_strconv_toError : RCode :=
  (.seq
    (.region [⟨some 10, .none, true, 88, .assign (.const .nilIface)⟩])
  (.keep [0, 1, 2, 3, 4]
  (.seq
    (.seq
      (.region [⟨some 11, .none, true, 88, .move (.tmp 4)⟩])
    (.keep [0, 1, 2, 3, 4, 11]
    (.block 0
      (.seq
        (.region [⟨some 13, .none, true, 88, .makeInterface 110 (.const (.int .i64 2))⟩,
          ⟨some 14, .none, true, 4, .binOp .eql 88 (.tmp 11) (.tmp 13) 88⟩,
          ⟨some 12, .none, true, 4, .assign (.tmp 14)⟩])
      (.keep [0, 1, 2, 3, 4, 11, 12]
      (.cond (.tmp 12)
        (.seq
          (.region [⟨some 15, .none, true, 9, .move (.tmp 0)⟩,
            ⟨some 16, .none, true, 9, .move (.tmp 1)⟩,
            ⟨some 17, .none, true, 113, .call { callee := .value (.func 86), args := #[.tmp 15, .tmp 16], argTypes := #[9, 9] }⟩,
            ⟨some 18, .none, true, 88, .makeInterface 113 (.tmp 17)⟩,
            ⟨some 10, .none, true, 88, .assign (.tmp 18)⟩])
        .ret)
        (.seq
          (.region [⟨some 20, .none, true, 88, .makeInterface 110 (.const (.int .i64 1))⟩,
            ⟨some 21, .none, true, 4, .binOp .eql 88 (.tmp 11) (.tmp 20) 88⟩,
            ⟨some 19, .none, true, 4, .assign (.tmp 21)⟩])
        (.keep [0, 1, 2, 3, 4, 11, 19]
        (.cond (.tmp 19)
          (.seq
            (.region [⟨some 22, .none, true, 9, .move (.tmp 0)⟩,
              ⟨some 23, .none, true, 9, .move (.tmp 1)⟩,
              ⟨some 24, .none, true, 113, .call { callee := .value (.func 87), args := #[.tmp 22, .tmp 23], argTypes := #[9, 9] }⟩,
              ⟨some 25, .none, true, 88, .makeInterface 113 (.tmp 24)⟩,
              ⟨some 10, .none, true, 88, .assign (.tmp 25)⟩])
          .ret)
          (.seq
            (.region [⟨some 27, .none, true, 88, .makeInterface 110 (.const (.int .i64 3))⟩,
              ⟨some 28, .none, true, 4, .binOp .eql 88 (.tmp 11) (.tmp 27) 88⟩,
              ⟨some 26, .none, true, 4, .assign (.tmp 28)⟩])
          (.keep [0, 1, 2, 3, 4, 11, 26]
          (.cond (.tmp 26)
            (.seq
              (.region [⟨some 29, .none, true, 9, .move (.tmp 0)⟩,
                ⟨some 30, .none, true, 9, .move (.tmp 1)⟩,
                ⟨some 31, .none, true, 3, .move (.tmp 2)⟩,
                ⟨some 32, .none, true, 113, .call { callee := .value (.func 88), args := #[.tmp 29, .tmp 30, .tmp 31], argTypes := #[9, 9, 3] }⟩,
                ⟨some 33, .none, true, 88, .makeInterface 113 (.tmp 32)⟩,
                ⟨some 10, .none, true, 88, .assign (.tmp 33)⟩])
            .ret)
            (.seq
              (.region [⟨some 35, .none, true, 88, .makeInterface 110 (.const (.int .i64 4))⟩,
                ⟨some 36, .none, true, 4, .binOp .eql 88 (.tmp 11) (.tmp 35) 88⟩,
                ⟨some 34, .none, true, 4, .assign (.tmp 36)⟩])
            (.keep [0, 1, 3, 4, 34]
            (.cond (.tmp 34)
              (.seq
                (.region [⟨some 37, .none, true, 9, .move (.tmp 0)⟩,
                  ⟨some 38, .none, true, 9, .move (.tmp 1)⟩,
                  ⟨some 39, .none, true, 3, .move (.tmp 3)⟩,
                  ⟨some 40, .none, true, 113, .call { callee := .value (.func 89), args := #[.tmp 37, .tmp 38, .tmp 39], argTypes := #[9, 9, 3] }⟩,
                  ⟨some 41, .none, true, 88, .makeInterface 113 (.tmp 40)⟩,
                  ⟨some 10, .none, true, 88, .assign (.tmp 41)⟩])
              .ret)
              .skip)))))))))))))))
  (.seq
    (.region [⟨some 42, .none, true, 88, .move (.tmp 4)⟩,
      ⟨some 10, .none, true, 88, .assign (.tmp 42)⟩])
  .ret))))
theorem t_strconv_toError : FnT Tryd.prog f_strconv_toError rc_strconv_toError [.tmp 10] 5 := ⟨⟨[], Tryd.f78, _, Tryd.func78, rfl, by kernel_rfl, by kernel_rfl, by kernel_rfl, rfl, by decide⟩, by kernel_rfl⟩
/-- internal/strconv.FormatInt -/
abbrev f_internal_strconv_FormatInt : FuncId := 79
def rc_internal_strconv_FormatInt : RCode :=
  (.seq
    (.region [⟨some 4, .none, true, 9, .assign (.const (.string { data := #[] }))⟩])
  (.keep [0, 1]
  (.seq
    (.seq
      (.region [⟨some 10, .none, true, 3, .move (.tmp 1)⟩,
        ⟨some 11, .none, true, 4, .binOp .eql 3 (.tmp 10) (.const (.int .i64 10)) 3⟩])
    (.keep [0, 1, 11]
    (.cond (.tmp 11)
      (.seq
        (.seq
          (.region [⟨some 12, .none, true, 2, .move (.tmp 0)⟩,
            ⟨some 13, .none, true, 4, .binOp .leq 2 (.const (.int .i64 0)) (.tmp 12) 2⟩,
            ⟨some 14, .none, true, 4, .move (.tmp 13)⟩,
            ⟨some 15, .some 14 true, true, 2, .move (.tmp 0)⟩,
            ⟨some 16, .some 14 true, true, 4, .binOp .lss 2 (.tmp 15) (.const (.int .i64 100)) 2⟩,
            ⟨some 17, .none, true, 4, .pick (.tmp 14) (.tmp 16) (.const (.bool false))⟩])
        (.keep [0, 17]
        (.cond (.tmp 17)
          (.seq
            (.region [⟨some 18, .none, true, 2, .move (.tmp 0)⟩,
              ⟨some 19, .none, true, 9, .call { callee := .value (.func 90), args := #[.tmp 18], argTypes := #[3] }⟩,
              ⟨some 4, .none, true, 9, .assign (.tmp 19)⟩])
          .ret)
          .skip)))
      (.seq
        (.region [⟨some 5, .none, true, 0, .alloc 116⟩])
      (.keep [0, 5]
      (.seq
        (.region [⟨some 20, .none, true, 2, .move (.tmp 0)⟩,
          ⟨some 21, .none, true, 27, .convert 2 27 (.tmp 20)⟩,
          ⟨some 6, .none, true, 27, .assign (.tmp 21)⟩])
      (.keep [0, 5, 6]
      (.seq
        (.seq
          (.region [⟨some 22, .none, true, 2, .move (.tmp 0)⟩,
            ⟨some 23, .none, true, 4, .binOp .lss 2 (.tmp 22) (.const (.int .i64 0)) 2⟩])
        (.keep [0, 5, 6, 23]
        (.cond (.tmp 23)
          (.region [⟨some 24, .none, true, 27, .move (.tmp 6)⟩,
            ⟨some 25, .none, true, 27, .unOp .neg 27 (.tmp 24)⟩,
            ⟨some 6, .none, true, 27, .assign (.tmp 25)⟩])
          .skip)))
      (.seq
        (.region [⟨some 26, .none, true, 27, .move (.tmp 6)⟩,
          ⟨some 27, .none, true, 3, .call { callee := .value (.func 91), args := #[.tmp 26], argTypes := #[27] }⟩,
          ⟨some 7, .none, true, 3, .assign (.tmp 27)⟩])
      (.keep [0, 5, 6, 7]
      (.seq
        (.region [⟨some 28, .none, true, 3, .move (.tmp 7)⟩,
          ⟨some 29, .none, true, 3, .binOp .add 3 (.const (.int .i64 1)) (.tmp 28) 3⟩,
          ⟨some 30, .none, true, 93, .slice 116 (.tmp 5) (some (.const (.int .i64 1))) (some (.tmp 29)) none⟩,
          ⟨some 31, .none, true, 27, .move (.tmp 6)⟩,
          ⟨some 32, .none, true, 0, .call { callee := .value (.func 92), args := #[.tmp 30, .tmp 31], argTypes := #[93, 27] }⟩])
      (.keep [0, 5, 7]
      (.seq
        (.seq
          (.region [⟨some 33, .none, true, 2, .move (.tmp 0)⟩,
            ⟨some 34, .none, true, 4, .binOp .lss 2 (.tmp 33) (.const (.int .i64 0)) 2⟩])
        (.keep [5, 7, 34]
        (.cond (.tmp 34)
          (.seq
            (.region [⟨some 35, .none, true, 0, .indexAddr 116 (.tmp 5) (.const (.int .i64 0))⟩,
              ⟨none, .none, true, 0, .store 5 (.tmp 35) (.const (.int .u8 45))⟩])
          (.keep [5, 7]
          (.seq
            (.region [⟨some 36, .none, true, 3, .move (.tmp 7)⟩,
              ⟨some 37, .none, true, 3, .binOp .add 3 (.const (.int .i64 1)) (.tmp 36) 3⟩,
              ⟨some 38, .none, true, 93, .slice 116 (.tmp 5) none (some (.tmp 37)) none⟩,
              ⟨some 39, .none, true, 9, .convert 93 9 (.tmp 38)⟩,
              ⟨some 4, .none, true, 9, .assign (.tmp 39)⟩])
          .ret)))
          .skip)))
      (.seq
        (.region [⟨some 40, .none, true, 3, .move (.tmp 7)⟩,
          ⟨some 41, .none, true, 3, .binOp .add 3 (.const (.int .i64 1)) (.tmp 40) 3⟩,
          ⟨some 42, .none, true, 93, .slice 116 (.tmp 5) (some (.const (.int .i64 1))) (some (.tmp 41)) none⟩,
          ⟨some 43, .none, true, 9, .convert 93 9 (.tmp 42)⟩,
          ⟨some 4, .none, true, 9, .assign (.tmp 43)⟩])
      .ret))))))))))))
      .skip)))
  (.seq
    (.region [⟨some 45, .none, true, 2, .move (.tmp 0)⟩,
      ⟨some 46, .none, true, 27, .convert 2 27 (.tmp 45)⟩,
      ⟨some 47, .none, true, 3, .move (.tmp 1)⟩,
      ⟨some 48, .none, true, 2, .move (.tmp 0)⟩,
      ⟨some 49, .none, true, 4, .binOp .lss 2 (.tmp 48) (.const (.int .i64 0)) 2⟩,
      ⟨some 50, .none, true, 119, .call { callee := .value (.func 93), args := #[.const (.slice none 0 0), .tmp 46, .tmp 47, .tmp 49, .const (.bool false)], argTypes := #[93, 27, 3, 4, 4] }⟩,
      ⟨some 44, .none, true, 119, .move (.tmp 50)⟩,
      ⟨some 51, .none, true, 93, .extract (.tmp 44) 0⟩,
      ⟨some 52, .none, true, 9, .extract (.tmp 44) 1⟩,
      ⟨some 8, .none, true, 93, .assign (.tmp 51)⟩,
      ⟨some 9, .none, true, 9, .assign (.tmp 52)⟩])
  (.keep [9]
  (.seq
    (.region [⟨some 53, .none, true, 9, .move (.tmp 9)⟩,
      ⟨some 4, .none, true, 9, .assign (.tmp 53)⟩])
  .ret))))))
theorem t_internal_strconv_FormatInt : FnT Tryd.prog f_internal_strconv_FormatInt rc_internal_strconv_FormatInt [.tmp 4] 2 := ⟨⟨[], Tryd.f79, _, Tryd.func79, rfl, by kernel_rfl, by kernel_rfl, by kernel_rfl, rfl, by decide⟩, by kernel_rfl⟩
/-- (*strings.Builder).grow -/
abbrev f_P_strings_Builder_grow : FuncId := 81
def rc_P_strings_Builder_grow : RCode :=
  (.seq
    (.regionD [⟨some 5, .none, 92, .move (.tmp 0), 0, []⟩,
      ⟨some 6, .none, 0, .nilCheck (.tmp 5), 1, []⟩,
      ⟨some 7, .none, 0, .fieldAddr 95 (.tmp 6) 1, 2, []⟩,
      ⟨some 8, .none, 93, .load 93 (.tmp 7), 3, []⟩,
      ⟨some 9, .none, 3, .call { callee := .builtin .cap, args := #[.tmp 8], argTypes := #[93] }, 4, []⟩,
      ⟨some 10, .none, 3, .binOp .mul 3 (.const (.int .i64 2)) (.tmp 9) 3, 5, []⟩,
      ⟨some 11, .none, 3, .move (.tmp 1), 6, []⟩,
      ⟨some 12, .none, 3, .binOp .add 3 (.tmp 10) (.tmp 11) 3, 7, []⟩,
      ⟨some 13, .none, 93, .call { callee := .value (.func 95), args := #[.tmp 12], argTypes := #[3] }, 8, []⟩,
      ⟨some 14, .none, 92, .move (.tmp 0), 9, []⟩,
      ⟨some 15, .none, 0, .nilCheck (.tmp 14), 10, []⟩,
      ⟨some 16, .none, 0, .fieldAddr 95 (.tmp 15) 1, 11, []⟩,
      ⟨some 17, .none, 93, .load 93 (.tmp 16), 12, [4, 8]⟩,
      ⟨some 18, .none, 3, .call { callee := .builtin .len, args := #[.tmp 17], argTypes := #[93] }, 13, []⟩,
      ⟨some 19, .none, 93, .slice 93 (.tmp 13) none (some (.tmp 18)) none, 14, []⟩,
      ⟨some 4, .none, 93, .assign (.tmp 19), 15, []⟩])
  (.keep [0, 4]
  (.seq
    (.region [⟨some 20, .none, true, 93, .move (.tmp 4)⟩,
      ⟨some 21, .none, true, 92, .move (.tmp 0)⟩,
      ⟨some 22, .none, true, 0, .nilCheck (.tmp 21)⟩,
      ⟨some 23, .none, true, 0, .fieldAddr 95 (.tmp 22) 1⟩,
      ⟨some 24, .none, true, 93, .load 93 (.tmp 23)⟩,
      ⟨some 25, .none, true, 3, .call { callee := .builtin .copy, args := #[.tmp 20, .tmp 24], argTypes := #[93, 93] }⟩])
  (.keep [0, 4]
  (.region [⟨some 26, .none, true, 92, .move (.tmp 0)⟩,
    ⟨some 27, .none, true, 93, .move (.tmp 4)⟩,
    ⟨some 28, .none, true, 0, .nilCheck (.tmp 26)⟩,
    ⟨some 29, .none, true, 0, .fieldAddr 95 (.tmp 28) 1⟩,
    ⟨none, .none, true, 0, .store 93 (.tmp 29) (.tmp 27)⟩])))))
theorem t_P_strings_Builder_grow : FnT Tryd.prog f_P_strings_Builder_grow rc_P_strings_Builder_grow [] 2 := ⟨⟨[0], Tryd.f81, _, Tryd.func81, rfl, by kernel_rfl, by kernel_rfl, by kernel_rfl, rfl, by decide⟩, by kernel_rfl⟩
/-- strings.explode -/
abbrev f_strings_explode : FuncId := 82
def rc_strings_explodel0 : RCode :=
  (.seq
    (.seq
      (.region [⟨some 22, .none, true, 3, .move (.tmp 7)⟩,
        ⟨some 23, .none, true, 3, .move (.tmp 1)⟩,
        ⟨some 24, .none, true, 3, .binOp .sub 3 (.tmp 23) (.const (.int .i64 1)) 3⟩,
        ⟨some 25, .none, true, 4, .binOp .lss 3 (.tmp 22) (.tmp 24) 3⟩])
    (.keep [0, 1, 6, 7, 25]
    (.cond (.tmp 25)
      .skip
      (.exit 0))))
  (.seq
    (.block 1
      (.seq
        (.region [⟨some 29, .none, true, 9, .move (.tmp 0)⟩,
          ⟨some 30, .none, true, 125, .call { callee := .value (.func 97), args := #[.tmp 29], argTypes := #[9] }⟩,
          ⟨some 28, .none, true, 125, .move (.tmp 30)⟩,
          ⟨some 31, .none, true, 21, .extract (.tmp 28) 0⟩,
          ⟨some 32, .none, true, 3, .extract (.tmp 28) 1⟩,
          ⟨some 8, .none, true, 21, .assign (.tmp 31)⟩,
          ⟨some 9, .none, true, 3, .assign (.tmp 32)⟩])
      (.keep [0, 1, 6, 7, 9]
      (.seq
        (.region [⟨some 33, .none, true, 65, .move (.tmp 6)⟩,
          ⟨some 34, .none, true, 3, .move (.tmp 7)⟩,
          ⟨some 35, .none, true, 9, .move (.tmp 0)⟩,
          ⟨some 36, .none, true, 3, .move (.tmp 9)⟩,
          ⟨some 37, .none, true, 9, .slice 9 (.tmp 35) none (some (.tmp 36)) none⟩,
          ⟨some 38, .none, true, 0, .indexAddr 65 (.tmp 33) (.tmp 34)⟩,
          ⟨none, .none, true, 0, .store 9 (.tmp 38) (.tmp 37)⟩])
      (.keep [0, 1, 6, 7, 9]
      (.region [⟨some 39, .none, true, 9, .move (.tmp 0)⟩,
        ⟨some 40, .none, true, 3, .move (.tmp 9)⟩,
        ⟨some 41, .none, true, 9, .slice 9 (.tmp 39) (some (.tmp 40)) none none⟩,
        ⟨some 0, .none, true, 9, .assign (.tmp 41)⟩]))))))
  (.keep [0, 1, 6, 7]
  (.region [⟨some 26, .none, true, 3, .move (.tmp 7)⟩,
    ⟨some 27, .none, true, 3, .binOp .add 3 (.tmp 26) (.const (.int .i64 1)) 3⟩,
    ⟨some 7, .none, true, 3, .assign (.tmp 27)⟩]))))
def rc_strings_explode : RCode :=
  (.seq
    (.region [⟨some 4, .none, true, 65, .assign (.const (.slice none 0 0))⟩])
  (.keep [0, 1]
  (.seq
    (.region [⟨some 10, .none, true, 9, .move (.tmp 0)⟩,
      ⟨some 11, .none, true, 3, .call { callee := .value (.func 96), args := #[.tmp 10], argTypes := #[9] }⟩,
      ⟨some 5, .none, true, 3, .assign (.tmp 11)⟩])
  (.keep [0, 1, 5]
  (.seq
    (.seq
      (.region [⟨some 12, .none, true, 3, .move (.tmp 1)⟩,
        ⟨some 13, .none, true, 4, .binOp .lss 3 (.tmp 12) (.const (.int .i64 0)) 3⟩,
        ⟨some 14, .none, true, 4, .move (.tmp 13)⟩,
        ⟨some 15, .some 14 false, true, 3, .move (.tmp 1)⟩,
        ⟨some 16, .some 14 false, true, 3, .move (.tmp 5)⟩,
        ⟨some 17, .some 14 false, true, 4, .binOp .gtr 3 (.tmp 15) (.tmp 16) 3⟩,
        ⟨some 18, .none, true, 4, .pick (.tmp 14) (.const (.bool true)) (.tmp 17)⟩])
    (.keep [0, 1, 5, 18]
    (.cond (.tmp 18)
      (.region [⟨some 19, .none, true, 3, .move (.tmp 5)⟩,
        ⟨some 1, .none, true, 3, .assign (.tmp 19)⟩])
      .skip)))
  (.seq
    (.region [⟨some 20, .none, true, 3, .move (.tmp 1)⟩,
      ⟨some 21, .none, true, 65, .makeSlice 65 (.tmp 20) (.tmp 20)⟩,
      ⟨some 6, .none, true, 65, .assign (.tmp 21)⟩])
  (.keep [0, 1, 6]
  (.seq
    (.seq
      (.region [⟨some 7, .none, true, 3, .assign (.const (.int .i64 0))⟩])
    (.keep [0, 1, 6, 7]
    (.block 0
      (.loop [0, 1, 6, 7] rc_strings_explodel0))))
  (.seq
    (.seq
      (.region [⟨some 42, .none, true, 3, .move (.tmp 1)⟩,
        ⟨some 43, .none, true, 4, .binOp .gtr 3 (.tmp 42) (.const (.int .i64 0)) 3⟩])
    (.keep [0, 1, 6, 43]
    (.cond (.tmp 43)
      (.region [⟨some 44, .none, true, 65, .move (.tmp 6)⟩,
        ⟨some 45, .none, true, 3, .move (.tmp 1)⟩,
        ⟨some 46, .none, true, 3, .binOp .sub 3 (.tmp 45) (.const (.int .i64 1)) 3⟩,
        ⟨some 47, .none, true, 9, .move (.tmp 0)⟩,
        ⟨some 48, .none, true, 0, .indexAddr 65 (.tmp 44) (.tmp 46)⟩,
        ⟨none, .none, true, 0, .store 9 (.tmp 48) (.tmp 47)⟩])
      .skip)))
  (.seq
    (.region [⟨some 49, .none, true, 65, .move (.tmp 6)⟩,
      ⟨some 4, .none, true, 65, .assign (.tmp 49)⟩])
  .ret))))))))))
theorem t_strings_explode : FnT Tryd.prog f_strings_explode rc_strings_explode [.tmp 4] 2 := ⟨⟨[], Tryd.f82, _, Tryd.func82, rfl, by kernel_rfl, by kernel_rfl, by kernel_rfl, rfl, by decide⟩, by kernel_rfl⟩
/-- strings.Count -/
abbrev f_strings_Count : FuncId := 83
def rc_strings_Countl0 : RCode :=
  (.block 1
    (.seq
      (.region [⟨some 20, .none, true, 9, .move (.tmp 0)⟩,
        ⟨some 21, .none, true, 9, .move (.tmp 1)⟩,
        ⟨some 22, .none, true, 3, .call { callee := .value (.func 84), args := #[.tmp 20, .tmp 21], argTypes := #[9, 9] }⟩,
        ⟨some 6, .none, true, 3, .assign (.tmp 22)⟩])
    (.keep [0, 1, 5, 6]
    (.seq
      (.seq
        (.region [⟨some 23, .none, true, 3, .move (.tmp 6)⟩,
          ⟨some 24, .none, true, 4, .binOp .eql 3 (.tmp 23) (.const (.int .i64 (-1))) 3⟩])
      (.keep [0, 1, 5, 6, 24]
      (.cond (.tmp 24)
        (.seq
          (.region [⟨some 25, .none, true, 3, .move (.tmp 5)⟩,
            ⟨some 4, .none, true, 3, .assign (.tmp 25)⟩])
        .ret)
        .skip)))
    (.seq
      (.region [⟨some 26, .none, true, 3, .move (.tmp 5)⟩,
        ⟨some 27, .none, true, 3, .binOp .add 3 (.tmp 26) (.const (.int .i64 1)) 3⟩,
        ⟨some 5, .none, true, 3, .assign (.tmp 27)⟩])
    (.keep [0, 1, 5, 6]
    (.region [⟨some 28, .none, true, 9, .move (.tmp 0)⟩,
      ⟨some 29, .none, true, 3, .move (.tmp 6)⟩,
      ⟨some 30, .none, true, 9, .move (.tmp 1)⟩,
      ⟨some 31, .none, true, 3, .call { callee := .builtin .len, args := #[.tmp 30], argTypes := #[9] }⟩,
      ⟨some 32, .none, true, 3, .binOp .add 3 (.tmp 29) (.tmp 31) 3⟩,
      ⟨some 33, .none, true, 9, .slice 9 (.tmp 28) (some (.tmp 32)) none none⟩,
      ⟨some 0, .none, true, 9, .assign (.tmp 33)⟩])))))))
def rc_strings_Count : RCode :=
  (.seq
    (.region [⟨some 4, .none, true, 3, .assign (.const (.int .i64 0))⟩])
  (.keep [0, 1]
  (.seq
    (.seq
      (.region [⟨some 7, .none, true, 9, .move (.tmp 1)⟩,
        ⟨some 8, .none, true, 3, .call { callee := .builtin .len, args := #[.tmp 7], argTypes := #[9] }⟩,
        ⟨some 9, .none, true, 4, .binOp .eql 3 (.tmp 8) (.const (.int .i64 0)) 3⟩])
    (.keep [0, 1, 9]
    (.cond (.tmp 9)
      (.seq
        (.region [⟨some 10, .none, true, 9, .move (.tmp 0)⟩,
          ⟨some 11, .none, true, 3, .call { callee := .value (.func 96), args := #[.tmp 10], argTypes := #[9] }⟩,
          ⟨some 12, .none, true, 3, .binOp .add 3 (.tmp 11) (.const (.int .i64 1)) 3⟩,
          ⟨some 4, .none, true, 3, .assign (.tmp 12)⟩])
      .ret)
      .skip)))
  (.seq
    (.seq
      (.region [⟨some 13, .none, true, 9, .move (.tmp 1)⟩,
        ⟨some 14, .none, true, 3, .call { callee := .builtin .len, args := #[.tmp 13], argTypes := #[9] }⟩,
        ⟨some 15, .none, true, 4, .binOp .eql 3 (.tmp 14) (.const (.int .i64 1)) 3⟩])
    (.keep [0, 1, 15]
    (.cond (.tmp 15)
      (.seq
        (.region [⟨some 16, .none, true, 9, .move (.tmp 0)⟩,
          ⟨some 17, .none, true, 9, .move (.tmp 1)⟩,
          ⟨some 18, .none, true, 5, .index 9 (.tmp 17) (.const (.int .i64 0))⟩,
          ⟨some 19, .none, true, 3, .call { callee := .value (.func 98), args := #[.tmp 16, .tmp 18], argTypes := #[9, 5] }⟩,
          ⟨some 4, .none, true, 3, .assign (.tmp 19)⟩])
      .ret)
      .skip)))
  (.seq
    (.region [⟨some 5, .none, true, 3, .assign (.const (.int .i64 0))⟩])
  (.keep [0, 1, 5]
  (.block 0
    (.loop [0, 1, 5] rc_strings_Countl0))))))))
theorem t_strings_Count : FnT Tryd.prog f_strings_Count rc_strings_Count [.tmp 4] 2 := ⟨⟨[], Tryd.f83, _, Tryd.func83, rfl, by kernel_rfl, by kernel_rfl, by kernel_rfl, rfl, by decide⟩, by kernel_rfl⟩
/-- strings.Index -/
abbrev f_strings_Index : FuncId := 84
def rc_strings_Index : RCode :=
  (.seq
    (.region [⟨some 4, .none, true, 3, .assign (.const (.int .i64 0))⟩])
  (.keep [0, 1]
  (.seq
    (.region [⟨some 5, .none, true, 9, .move (.tmp 0)⟩,
      ⟨some 6, .none, true, 9, .move (.tmp 1)⟩,
      ⟨some 7, .none, true, 3, .call { callee := .value (.func 99), args := #[.tmp 5, .tmp 6], argTypes := #[9, 9] }⟩,
      ⟨some 4, .none, true, 3, .assign (.tmp 7)⟩])
  .ret)))
theorem t_strings_Index : FnT Tryd.prog f_strings_Index rc_strings_Index [.tmp 4] 2 := ⟨⟨[], Tryd.f84, _, Tryd.func84, rfl, by kernel_rfl, by kernel_rfl, by kernel_rfl, rfl, by decide⟩, by kernel_rfl⟩
/-- internal/strconv.ParseInt -/
abbrev f_internal_strconv_ParseInt : FuncId := 85
def rc_internal_strconv_ParseInt : RCode :=
  (.seq
    (.region [⟨some 6, .none, true, 2, .assign (.const (.int .i64 0))⟩,
      ⟨some 7, .none, true, 88, .assign (.const .nilIface)⟩])
  (.keep [0, 1, 2]
  (.seq
    (.seq
      (.region [⟨some 12, .none, true, 9, .move (.tmp 0)⟩,
        ⟨some 13, .none, true, 4, .binOp .eql 9 (.tmp 12) (.const (.string { data := #[] })) 9⟩])
    (.keep [0, 1, 2, 13]
    (.cond (.tmp 13)
      (.seq
        (.region [⟨some 14, .none, true, 88, .makeInterface 110 (.const (.int .i64 2))⟩,
          ⟨some 6, .none, true, 2, .assign (.const (.int .i64 0))⟩,
          ⟨some 7, .none, true, 88, .assign (.tmp 14)⟩])
      .ret)
      .skip)))
  (.seq
    (.region [⟨some 8, .none, true, 4, .assign (.const (.bool false))⟩])
  (.keep [0, 1, 2, 8]
  (.seq
    (.seq
      (.region [⟨some 15, .none, true, 9, .move (.tmp 0)⟩,
        ⟨some 16, .none, true, 5, .index 9 (.tmp 15) (.const (.int .i64 0))⟩])
    (.keep [0, 1, 2, 8, 16]
    (.block 0
      (.seq
        (.region [⟨some 18, .none, true, 4, .binOp .eql 5 (.tmp 16) (.const (.int .u8 43)) 5⟩,
          ⟨some 17, .none, true, 4, .assign (.tmp 18)⟩])
      (.keep [0, 1, 2, 8, 16, 17]
      (.cond (.tmp 17)
        (.region [⟨some 19, .none, true, 9, .move (.tmp 0)⟩,
          ⟨some 20, .none, true, 9, .slice 9 (.tmp 19) (some (.const (.int .i64 1))) none none⟩,
          ⟨some 0, .none, true, 9, .assign (.tmp 20)⟩])
        (.seq
          (.region [⟨some 22, .none, true, 4, .binOp .eql 5 (.tmp 16) (.const (.int .u8 45)) 5⟩,
            ⟨some 21, .none, true, 4, .assign (.tmp 22)⟩])
        (.keep [0, 1, 2, 8, 21]
        (.cond (.tmp 21)
          (.seq
            (.region [⟨some 23, .none, true, 9, .move (.tmp 0)⟩,
              ⟨some 24, .none, true, 9, .slice 9 (.tmp 23) (some (.const (.int .i64 1))) none none⟩,
              ⟨some 0, .none, true, 9, .assign (.tmp 24)⟩])
          (.keep [0, 1, 2]
          (.region [⟨some 8, .none, true, 4, .assign (.const (.bool true))⟩])))
          .skip)))))))))
  (.seq
    (.region [⟨some 9, .none, true, 27, .assign (.const (.int .u64 0))⟩])
  (.keep [0, 1, 2, 8]
  (.seq
    (.region [⟨some 26, .none, true, 9, .move (.tmp 0)⟩,
      ⟨some 27, .none, true, 3, .move (.tmp 1)⟩,
      ⟨some 28, .none, true, 3, .move (.tmp 2)⟩,
      ⟨some 29, .none, true, 128, .call { callee := .value (.func 100), args := #[.tmp 26, .tmp 27, .tmp 28], argTypes := #[9, 3, 3] }⟩,
      ⟨some 25, .none, true, 128, .move (.tmp 29)⟩,
      ⟨some 30, .none, true, 27, .extract (.tmp 25) 0⟩,
      ⟨some 31, .none, true, 88, .extract (.tmp 25) 1⟩,
      ⟨some 9, .none, true, 27, .assign (.tmp 30)⟩,
      ⟨some 7, .none, true, 88, .assign (.tmp 31)⟩])
  (.keep [2, 7, 8, 9]
  (.seq
    (.seq
      (.region [⟨some 32, .none, true, 88, .move (.tmp 7)⟩,
        ⟨some 33, .none, true, 4, .binOp .neq 88 (.tmp 32) (.const .nilIface) 88⟩,
        ⟨some 34, .none, true, 4, .move (.tmp 33)⟩,
        ⟨some 35, .some 34 true, true, 88, .move (.tmp 7)⟩,
        ⟨some 36, .some 34 true, true, 88, .makeInterface 110 (.const (.int .i64 1))⟩,
        ⟨some 37, .some 34 true, true, 4, .binOp .neq 88 (.tmp 35) (.tmp 36) 88⟩,
        ⟨some 38, .none, true, 4, .pick (.tmp 34) (.tmp 37) (.const (.bool false))⟩])
    (.keep [2, 7, 8, 9, 38]
    (.cond (.tmp 38)
      (.seq
        (.region [⟨some 39, .none, true, 88, .move (.tmp 7)⟩,
          ⟨some 6, .none, true, 2, .assign (.const (.int .i64 0))⟩,
          ⟨some 7, .none, true, 88, .assign (.tmp 39)⟩])
      .ret)
      .skip)))
  (.seq
    (.seq
      (.region [⟨some 40, .none, true, 3, .move (.tmp 2)⟩,
        ⟨some 41, .none, true, 4, .binOp .eql 3 (.tmp 40) (.const (.int .i64 0)) 3⟩])
    (.keep [2, 8, 9, 41]
    (.cond (.tmp 41)
      (.region [⟨some 2, .none, true, 3, .assign (.const (.int .i64 64))⟩])
      .skip)))
  (.seq
    (.region [⟨some 42, .none, true, 3, .move (.tmp 2)⟩,
      ⟨some 43, .none, true, 3, .binOp .sub 3 (.tmp 42) (.const (.int .i64 1)) 3⟩,
      ⟨some 44, .none, true, 85, .convert 3 85 (.tmp 43)⟩,
      ⟨some 45, .none, true, 27, .binOp .shl 27 (.const (.int .u64 1)) (.tmp 44) 85⟩,
      ⟨some 10, .none, true, 27, .assign (.tmp 45)⟩])
  (.keep [8, 9, 10]
  (.seq
    (.seq
      (.region [⟨some 46, .none, true, 4, .move (.tmp 8)⟩,
        ⟨some 47, .none, true, 4, .unOp .not 4 (.tmp 46)⟩,
        ⟨some 48, .none, true, 4, .move (.tmp 47)⟩,
        ⟨some 49, .some 48 true, true, 27, .move (.tmp 9)⟩,
        ⟨some 50, .some 48 true, true, 27, .move (.tmp 10)⟩,
        ⟨some 51, .some 48 true, true, 4, .binOp .geq 27 (.tmp 49) (.tmp 50) 27⟩,
        ⟨some 52, .none, true, 4, .pick (.tmp 48) (.tmp 51) (.const (.bool false))⟩])
    (.keep [8, 9, 10, 52]
    (.cond (.tmp 52)
      (.seq
        (.region [⟨some 53, .none, true, 27, .move (.tmp 10)⟩,
          ⟨some 54, .none, true, 27, .binOp .sub 27 (.tmp 53) (.const (.int .u64 1)) 27⟩,
          ⟨some 55, .none, true, 2, .convert 27 2 (.tmp 54)⟩,
          ⟨some 56, .none, true, 88, .makeInterface 110 (.const (.int .i64 1))⟩,
          ⟨some 6, .none, true, 2, .assign (.tmp 55)⟩,
          ⟨some 7, .none, true, 88, .assign (.tmp 56)⟩])
      .ret)
      .skip)))
  (.seq
    (.seq
      (.region [⟨some 57, .none, true, 4, .move (.tmp 8)⟩,
        ⟨some 58, .none, true, 4, .move (.tmp 57)⟩,
        ⟨some 59, .some 58 true, true, 27, .move (.tmp 9)⟩,
        ⟨some 60, .some 58 true, true, 27, .move (.tmp 10)⟩,
        ⟨some 61, .some 58 true, true, 4, .binOp .gtr 27 (.tmp 59) (.tmp 60) 27⟩,
        ⟨some 62, .none, true, 4, .pick (.tmp 58) (.tmp 61) (.const (.bool false))⟩])
    (.keep [8, 9, 10, 62]
    (.cond (.tmp 62)
      (.seq
        (.region [⟨some 63, .none, true, 27, .move (.tmp 10)⟩,
          ⟨some 64, .none, true, 2, .convert 27 2 (.tmp 63)⟩,
          ⟨some 65, .none, true, 2, .unOp .neg 2 (.tmp 64)⟩,
          ⟨some 66, .none, true, 88, .makeInterface 110 (.const (.int .i64 1))⟩,
          ⟨some 6, .none, true, 2, .assign (.tmp 65)⟩,
          ⟨some 7, .none, true, 88, .assign (.tmp 66)⟩])
      .ret)
      .skip)))
  (.seq
    (.region [⟨some 67, .none, true, 27, .move (.tmp 9)⟩,
      ⟨some 68, .none, true, 2, .convert 27 2 (.tmp 67)⟩,
      ⟨some 11, .none, true, 2, .assign (.tmp 68)⟩])
  (.keep [8, 11]
  (.seq
    (.seq
      (.region [⟨some 69, .none, true, 4, .move (.tmp 8)⟩])
    (.keep [11, 69]
    (.cond (.tmp 69)
      (.region [⟨some 70, .none, true, 2, .move (.tmp 11)⟩,
        ⟨some 71, .none, true, 2, .unOp .neg 2 (.tmp 70)⟩,
        ⟨some 11, .none, true, 2, .assign (.tmp 71)⟩])
      .skip)))
  (.seq
    (.region [⟨some 72, .none, true, 2, .move (.tmp 11)⟩,
      ⟨some 6, .none, true, 2, .assign (.tmp 72)⟩,
      ⟨some 7, .none, true, 88, .assign (.const .nilIface)⟩])
  .ret))))))))))))))))))))
theorem t_internal_strconv_ParseInt : FnT Tryd.prog f_internal_strconv_ParseInt rc_internal_strconv_ParseInt [.tmp 6, .tmp 7] 3 := ⟨⟨[], Tryd.f85, _, Tryd.func85, rfl, by kernel_rfl, by kernel_rfl, by kernel_rfl, rfl, by decide⟩, by kernel_rfl⟩
/-- strconv.syntaxError -/
abbrev f_strconv_syntaxError : FuncId := 86
def rc_strconv_syntaxError : RCode :=
  (.seq
    (.region [⟨some 4, .none, true, 113, .assign (.const (.pointer none))⟩])
  (.keep [0, 1]
  (.seq
    (.region [⟨some 5, .none, false, 9, .move (.tmp 0)⟩,
      ⟨some 6, .none, false, 9, .move (.tmp 1)⟩,
      ⟨some 7, .none, false, 9, .call { callee := .value (.func 101), args := #[.tmp 6], argTypes := #[9] }⟩,
      ⟨some 8, .none, false, 88, .load 88 (.global 0)⟩,
      ⟨some 9, .none, true, 132, .build 132 #[(0, .tmp 5), (1, .tmp 7), (2, .tmp 8)]⟩,
      ⟨some 10, .none, true, 113, .box 132 (.tmp 9)⟩,
      ⟨some 4, .none, true, 113, .assign (.tmp 10)⟩])
  .ret)))
theorem t_strconv_syntaxError : FnT Tryd.prog f_strconv_syntaxError rc_strconv_syntaxError [.tmp 4] 2 := ⟨⟨[], Tryd.f86, _, Tryd.func86, rfl, by kernel_rfl, by kernel_rfl, by kernel_rfl, rfl, by decide⟩, by kernel_rfl⟩
/-- strconv.rangeError -/
abbrev f_strconv_rangeError : FuncId := 87
def rc_strconv_rangeError : RCode :=
  (.seq
    (.region [⟨some 4, .none, true, 113, .assign (.const (.pointer none))⟩])
  (.keep [0, 1]
  (.seq
    (.region [⟨some 5, .none, false, 9, .move (.tmp 0)⟩,
      ⟨some 6, .none, false, 9, .move (.tmp 1)⟩,
      ⟨some 7, .none, false, 9, .call { callee := .value (.func 101), args := #[.tmp 6], argTypes := #[9] }⟩,
      ⟨some 8, .none, false, 88, .load 88 (.global 1)⟩,
      ⟨some 9, .none, true, 132, .build 132 #[(0, .tmp 5), (1, .tmp 7), (2, .tmp 8)]⟩,
      ⟨some 10, .none, true, 113, .box 132 (.tmp 9)⟩,
      ⟨some 4, .none, true, 113, .assign (.tmp 10)⟩])
  .ret)))
theorem t_strconv_rangeError : FnT Tryd.prog f_strconv_rangeError rc_strconv_rangeError [.tmp 4] 2 := ⟨⟨[], Tryd.f87, _, Tryd.func87, rfl, by kernel_rfl, by kernel_rfl, by kernel_rfl, rfl, by decide⟩, by kernel_rfl⟩
/-- strconv.baseError -/
abbrev f_strconv_baseError : FuncId := 88
def rc_strconv_baseError : RCode :=
  (.seq
    (.region [⟨some 6, .none, true, 113, .assign (.const (.pointer none))⟩])
  (.keep [0, 1, 2]
  (.seq
    (.region [⟨some 7, .none, true, 9, .move (.tmp 0)⟩,
      ⟨some 8, .none, true, 9, .move (.tmp 1)⟩,
      ⟨some 9, .none, true, 9, .call { callee := .value (.func 101), args := #[.tmp 8], argTypes := #[9] }⟩,
      ⟨some 10, .none, true, 3, .move (.tmp 2)⟩,
      ⟨some 11, .none, true, 9, .call { callee := .value (.func 44), args := #[.tmp 10], argTypes := #[3] }⟩,
      ⟨some 12, .none, true, 9, .binOp .add 9 (.const (.string { data := #[105, 110, 118, 97, 108, 105, 100, 32, 98, 97, 115, 101, 32] })) (.tmp 11) 9⟩,
      ⟨some 13, .none, true, 88, .call { callee := .value (.func 102), args := #[.tmp 12], argTypes := #[9] }⟩,
      ⟨some 14, .none, true, 132, .build 132 #[(0, .tmp 7), (1, .tmp 9), (2, .tmp 13)]⟩,
      ⟨some 15, .none, true, 113, .box 132 (.tmp 14)⟩,
      ⟨some 6, .none, true, 113, .assign (.tmp 15)⟩])
  .ret)))
theorem t_strconv_baseError : FnT Tryd.prog f_strconv_baseError rc_strconv_baseError [.tmp 6] 3 := ⟨⟨[], Tryd.f88, _, Tryd.func88, rfl, by kernel_rfl, by kernel_rfl, by kernel_rfl, rfl, by decide⟩, by kernel_rfl⟩
/-- strconv.bitSizeError -/
abbrev f_strconv_bitSizeError : FuncId := 89
def rc_strconv_bitSizeError : RCode :=
  (.seq
    (.region [⟨some 6, .none, true, 113, .assign (.const (.pointer none))⟩])
  (.keep [0, 1, 2]
  (.seq
    (.region [⟨some 7, .none, true, 9, .move (.tmp 0)⟩,
      ⟨some 8, .none, true, 9, .move (.tmp 1)⟩,
      ⟨some 9, .none, true, 9, .call { callee := .value (.func 101), args := #[.tmp 8], argTypes := #[9] }⟩,
      ⟨some 10, .none, true, 3, .move (.tmp 2)⟩,
      ⟨some 11, .none, true, 9, .call { callee := .value (.func 44), args := #[.tmp 10], argTypes := #[3] }⟩,
      ⟨some 12, .none, true, 9, .binOp .add 9 (.const (.string { data := #[105, 110, 118, 97, 108, 105, 100, 32, 98, 105, 116, 32, 115, 105, 122, 101, 32] })) (.tmp 11) 9⟩,
      ⟨some 13, .none, true, 88, .call { callee := .value (.func 102), args := #[.tmp 12], argTypes := #[9] }⟩,
      ⟨some 14, .none, true, 132, .build 132 #[(0, .tmp 7), (1, .tmp 9), (2, .tmp 13)]⟩,
      ⟨some 15, .none, true, 113, .box 132 (.tmp 14)⟩,
      ⟨some 6, .none, true, 113, .assign (.tmp 15)⟩])
  .ret)))
theorem t_strconv_bitSizeError : FnT Tryd.prog f_strconv_bitSizeError rc_strconv_bitSizeError [.tmp 6] 3 := ⟨⟨[], Tryd.f89, _, Tryd.func89, rfl, by kernel_rfl, by kernel_rfl, by kernel_rfl, rfl, by decide⟩, by kernel_rfl⟩
/-- internal/strconv.small -/
abbrev f_internal_strconv_small : FuncId := 90
def rc_internal_strconv_small : RCode :=
  (.seq
    (.region [⟨some 2, .none, true, 9, .assign (.const (.string { data := #[] }))⟩])
  (.keep [0]
  (.seq
    (.seq
      (.region [⟨some 3, .none, true, 3, .move (.tmp 0)⟩,
        ⟨some 4, .none, true, 4, .binOp .lss 3 (.tmp 3) (.const (.int .i64 10)) 3⟩])
    (.keep [0, 4]
    (.cond (.tmp 4)
      (.seq
        (.region [⟨some 5, .none, true, 3, .move (.tmp 0)⟩,
          ⟨some 6, .none, true, 3, .move (.tmp 0)⟩,
          ⟨some 7, .none, true, 3, .binOp .add 3 (.tmp 6) (.const (.int .i64 1)) 3⟩,
          ⟨some 8, .none, true, 9, .slice 9 (.const (.string { data := #[48, 49, 50, 51, 52, 53, 54, 55, 56, 57, 97, 98, 99, 100, 101, 102, 103, 104, 105, 106, 107, 108, 109, 110, 111, 112, 113, 114, 115, 116, 117, 118, 119, 120, 121, 122] })) (some (.tmp 5)) (some (.tmp 7)) none⟩,
          ⟨some 2, .none, true, 9, .assign (.tmp 8)⟩])
      .ret)
      .skip)))
  (.seq
    (.region [⟨some 9, .none, true, 3, .move (.tmp 0)⟩,
      ⟨some 10, .none, true, 3, .binOp .mul 3 (.tmp 9) (.const (.int .i64 2)) 3⟩,
      ⟨some 11, .none, true, 3, .move (.tmp 0)⟩,
      ⟨some 12, .none, true, 3, .binOp .mul 3 (.tmp 11) (.const (.int .i64 2)) 3⟩,
      ⟨some 13, .none, true, 3, .binOp .add 3 (.tmp 12) (.const (.int .i64 2)) 3⟩,
      ⟨some 14, .none, true, 9, .slice 9 (.const (.string { data := #[48, 48, 48, 49, 48, 50, 48, 51, 48, 52, 48, 53, 48, 54, 48, 55, 48, 56, 48, 57, 49, 48, 49, 49, 49, 50, 49, 51, 49, 52, 49, 53, 49, 54, 49, 55, 49, 56, 49, 57, 50, 48, 50, 49, 50, 50, 50, 51, 50, 52, 50, 53, 50, 54, 50, 55, 50, 56, 50, 57, 51, 48, 51, 49, 51, 50, 51, 51, 51, 52, 51, 53, 51, 54, 51, 55, 51, 56, 51, 57, 52, 48, 52, 49, 52, 50, 52, 51, 52, 52, 52, 53, 52, 54, 52, 55, 52, 56, 52, 57, 53, 48, 53, 49, 53, 50, 53, 51, 53, 52, 53, 53, 53, 54, 53, 55, 53, 56, 53, 57, 54, 48, 54, 49, 54, 50, 54, 51, 54, 52, 54, 53, 54, 54, 54, 55, 54, 56, 54, 57, 55, 48, 55, 49, 55, 50, 55, 51, 55, 52, 55, 53, 55, 54, 55, 55, 55, 56, 55, 57, 56, 48, 56, 49, 56, 50, 56, 51, 56, 52, 56, 53, 56, 54, 56, 55, 56, 56, 56, 57, 57, 48, 57, 49, 57, 50, 57, 51, 57, 52, 57, 53, 57, 54, 57, 55, 57, 56, 57, 57] })) (some (.tmp 10)) (some (.tmp 13)) none⟩,
      ⟨some 2, .none, true, 9, .assign (.tmp 14)⟩])
  .ret))))
theorem t_internal_strconv_small : FnT Tryd.prog f_internal_strconv_small rc_internal_strconv_small [.tmp 2] 1 := ⟨⟨[], Tryd.f90, _, Tryd.func90, rfl, by kernel_rfl, by kernel_rfl, by kernel_rfl, rfl, by decide⟩, by kernel_rfl⟩
/-- internal/strconv.numDigits -/
abbrev f_internal_strconv_numDigits : FuncId := 91
def rc_internal_strconv_numDigits : RCode :=
  (.seq
    (.region [⟨some 2, .none, true, 3, .assign (.const (.int .i64 0))⟩])
  (.keep [0]
  (.seq
    (.region [⟨some 4, .none, true, 27, .move (.tmp 0)⟩,
      ⟨some 5, .none, true, 3, .call { callee := .value (.func 104), args := #[.tmp 4], argTypes := #[27] }⟩,
      ⟨some 6, .none, true, 3, .call { callee := .value (.func 103), args := #[.tmp 5], argTypes := #[3] }⟩,
      ⟨some 3, .none, true, 3, .assign (.tmp 6)⟩])
  (.keep [0, 3]
  (.seq
    (.region [⟨some 7, .none, true, 3, .move (.tmp 3)⟩,
      ⟨some 8, .none, true, 27, .move (.tmp 0)⟩,
      ⟨some 9, .none, true, 3, .move (.tmp 3)⟩,
      ⟨some 10, .none, true, 0, .indexAddr 135 (.global 2) (.tmp 9)⟩,
      ⟨some 11, .none, true, 27, .load 27 (.tmp 10)⟩,
      ⟨some 12, .none, true, 4, .binOp .geq 27 (.tmp 8) (.tmp 11) 27⟩,
      ⟨some 13, .none, true, 3, .call { callee := .value (.func 105), args := #[.tmp 12], argTypes := #[4] }⟩,
      ⟨some 14, .none, true, 3, .binOp .add 3 (.tmp 7) (.tmp 13) 3⟩,
      ⟨some 2, .none, true, 3, .assign (.tmp 14)⟩])
  .ret)))))
theorem t_internal_strconv_numDigits : FnT Tryd.prog f_internal_strconv_numDigits rc_internal_strconv_numDigits [.tmp 2] 1 := ⟨⟨[], Tryd.f91, _, Tryd.func91, rfl, by kernel_rfl, by kernel_rfl, by kernel_rfl, rfl, by decide⟩, by kernel_rfl⟩
/-- internal/strconv.formatBase10 -/
abbrev f_internal_strconv_formatBase10 : FuncId := 92
def rc_internal_strconv_formatBase10l0 : RCode :=
  (.seq
    (.seq
      (.region [⟨some 19, .none, true, 3, .move (.tmp 4)⟩,
        ⟨some 20, .none, true, 4, .binOp .geq 3 (.tmp 19) (.const (.int .i64 8)) 3⟩])
    (.keep [0, 1, 4, 20]
    (.cond (.tmp 20)
      .skip
      (.exit 0))))
  (.block 1
    (.seq
      (.region [⟨some 21, .none, true, 27, .move (.tmp 1)⟩,
        ⟨some 22, .none, true, 27, .binOp .rem 27 (.tmp 21) (.const (.int .u64 100000000)) 27⟩,
        ⟨some 23, .none, true, 136, .convert 27 136 (.tmp 22)⟩,
        ⟨some 5, .none, true, 136, .assign (.tmp 23)⟩])
    (.keep [0, 1, 4, 5]
    (.seq
      (.region [⟨some 24, .none, true, 27, .move (.tmp 1)⟩,
        ⟨some 25, .none, true, 27, .binOp .quo 27 (.tmp 24) (.const (.int .u64 100000000)) 27⟩,
        ⟨some 1, .none, true, 27, .assign (.tmp 25)⟩])
    (.keep [0, 1, 4, 5]
    (.seq
      (.region [⟨some 26, .none, true, 136, .move (.tmp 5)⟩,
        ⟨some 27, .none, true, 136, .binOp .quo 136 (.tmp 26) (.const (.int .u32 10000)) 136⟩,
        ⟨some 28, .none, true, 136, .move (.tmp 5)⟩,
        ⟨some 29, .none, true, 136, .binOp .rem 136 (.tmp 28) (.const (.int .u32 10000)) 136⟩,
        ⟨some 6, .none, true, 136, .assign (.tmp 27)⟩,
        ⟨some 7, .none, true, 136, .assign (.tmp 29)⟩])
    (.keep [0, 1, 4, 6, 7]
    (.seq
      (.region [⟨some 30, .none, true, 136, .move (.tmp 7)⟩,
        ⟨some 31, .none, true, 136, .binOp .quo 136 (.tmp 30) (.const (.int .u32 100)) 136⟩,
        ⟨some 32, .none, true, 136, .binOp .mul 136 (.tmp 31) (.const (.int .u32 2)) 136⟩,
        ⟨some 33, .none, true, 136, .move (.tmp 7)⟩,
        ⟨some 34, .none, true, 136, .binOp .rem 136 (.tmp 33) (.const (.int .u32 100)) 136⟩,
        ⟨some 35, .none, true, 136, .binOp .mul 136 (.tmp 34) (.const (.int .u32 2)) 136⟩,
        ⟨some 8, .none, true, 136, .assign (.tmp 32)⟩,
        ⟨some 9, .none, true, 136, .assign (.tmp 35)⟩])
    (.keep [0, 1, 4, 6, 8, 9]
    (.seq
      (.region [⟨some 36, .none, true, 136, .move (.tmp 6)⟩,
        ⟨some 37, .none, true, 136, .binOp .quo 136 (.tmp 36) (.const (.int .u32 100)) 136⟩,
        ⟨some 38, .none, true, 136, .binOp .mul 136 (.tmp 37) (.const (.int .u32 2)) 136⟩,
        ⟨some 39, .none, true, 136, .move (.tmp 6)⟩,
        ⟨some 40, .none, true, 136, .binOp .rem 136 (.tmp 39) (.const (.int .u32 100)) 136⟩,
        ⟨some 41, .none, true, 136, .binOp .mul 136 (.tmp 40) (.const (.int .u32 2)) 136⟩,
        ⟨some 10, .none, true, 136, .assign (.tmp 38)⟩,
        ⟨some 11, .none, true, 136, .assign (.tmp 41)⟩])
    (.keep [0, 1, 4, 8, 9, 10, 11]
    (.seq
      (.region [⟨some 42, .none, true, 93, .move (.tmp 0)⟩,
        ⟨some 43, .none, true, 3, .move (.tmp 4)⟩,
        ⟨some 44, .none, true, 3, .binOp .sub 3 (.tmp 43) (.const (.int .i64 1)) 3⟩,
        ⟨some 45, .none, false, 93, .move (.tmp 0)⟩,
        ⟨some 46, .none, false, 3, .move (.tmp 4)⟩,
        ⟨some 47, .none, false, 3, .binOp .sub 3 (.tmp 46) (.const (.int .i64 2)) 3⟩,
        ⟨some 48, .none, true, 136, .move (.tmp 9)⟩,
        ⟨some 49, .none, true, 136, .binOp .add 136 (.tmp 48) (.const (.int .u32 1)) 136⟩,
        ⟨some 50, .none, true, 5, .index 9 (.const (.string { data := #[48, 48, 48, 49, 48, 50, 48, 51, 48, 52, 48, 53, 48, 54, 48, 55, 48, 56, 48, 57, 49, 48, 49, 49, 49, 50, 49, 51, 49, 52, 49, 53, 49, 54, 49, 55, 49, 56, 49, 57, 50, 48, 50, 49, 50, 50, 50, 51, 50, 52, 50, 53, 50, 54, 50, 55, 50, 56, 50, 57, 51, 48, 51, 49, 51, 50, 51, 51, 51, 52, 51, 53, 51, 54, 51, 55, 51, 56, 51, 57, 52, 48, 52, 49, 52, 50, 52, 51, 52, 52, 52, 53, 52, 54, 52, 55, 52, 56, 52, 57, 53, 48, 53, 49, 53, 50, 53, 51, 53, 52, 53, 53, 53, 54, 53, 55, 53, 56, 53, 57, 54, 48, 54, 49, 54, 50, 54, 51, 54, 52, 54, 53, 54, 54, 54, 55, 54, 56, 54, 57, 55, 48, 55, 49, 55, 50, 55, 51, 55, 52, 55, 53, 55, 54, 55, 55, 55, 56, 55, 57, 56, 48, 56, 49, 56, 50, 56, 51, 56, 52, 56, 53, 56, 54, 56, 55, 56, 56, 56, 57, 57, 48, 57, 49, 57, 50, 57, 51, 57, 52, 57, 53, 57, 54, 57, 55, 57, 56, 57, 57] })) (.tmp 49)⟩,
        ⟨some 51, .none, false, 136, .move (.tmp 9)⟩,
        ⟨some 52, .none, false, 5, .index 9 (.const (.string { data := #[48, 48, 48, 49, 48, 50, 48, 51, 48, 52, 48, 53, 48, 54, 48, 55, 48, 56, 48, 57, 49, 48, 49, 49, 49, 50, 49, 51, 49, 52, 49, 53, 49, 54, 49, 55, 49, 56, 49, 57, 50, 48, 50, 49, 50, 50, 50, 51, 50, 52, 50, 53, 50, 54, 50, 55, 50, 56, 50, 57, 51, 48, 51, 49, 51, 50, 51, 51, 51, 52, 51, 53, 51, 54, 51, 55, 51, 56, 51, 57, 52, 48, 52, 49, 52, 50, 52, 51, 52, 52, 52, 53, 52, 54, 52, 55, 52, 56, 52, 57, 53, 48, 53, 49, 53, 50, 53, 51, 53, 52, 53, 53, 53, 54, 53, 55, 53, 56, 53, 57, 54, 48, 54, 49, 54, 50, 54, 51, 54, 52, 54, 53, 54, 54, 54, 55, 54, 56, 54, 57, 55, 48, 55, 49, 55, 50, 55, 51, 55, 52, 55, 53, 55, 54, 55, 55, 55, 56, 55, 57, 56, 48, 56, 49, 56, 50, 56, 51, 56, 52, 56, 53, 56, 54, 56, 55, 56, 56, 56, 57, 57, 48, 57, 49, 57, 50, 57, 51, 57, 52, 57, 53, 57, 54, 57, 55, 57, 56, 57, 57] })) (.tmp 51)⟩,
        ⟨some 53, .none, true, 0, .indexAddr 93 (.tmp 42) (.tmp 44)⟩,
        ⟨none, .none, true, 0, .store 5 (.tmp 53) (.tmp 50)⟩,
        ⟨some 54, .none, true, 0, .indexAddr 93 (.tmp 45) (.tmp 47)⟩,
        ⟨none, .none, true, 0, .store 5 (.tmp 54) (.tmp 52)⟩])
    (.keep [0, 1, 4, 8, 10, 11]
    (.seq
      (.region [⟨some 55, .none, true, 93, .move (.tmp 0)⟩,
        ⟨some 56, .none, true, 3, .move (.tmp 4)⟩,
        ⟨some 57, .none, true, 3, .binOp .sub 3 (.tmp 56) (.const (.int .i64 3)) 3⟩,
        ⟨some 58, .none, false, 93, .move (.tmp 0)⟩,
        ⟨some 59, .none, false, 3, .move (.tmp 4)⟩,
        ⟨some 60, .none, false, 3, .binOp .sub 3 (.tmp 59) (.const (.int .i64 4)) 3⟩,
        ⟨some 61, .none, true, 136, .move (.tmp 8)⟩,
        ⟨some 62, .none, true, 136, .binOp .add 136 (.tmp 61) (.const (.int .u32 1)) 136⟩,
        ⟨some 63, .none, true, 5, .index 9 (.const (.string { data := #[48, 48, 48, 49, 48, 50, 48, 51, 48, 52, 48, 53, 48, 54, 48, 55, 48, 56, 48, 57, 49, 48, 49, 49, 49, 50, 49, 51, 49, 52, 49, 53, 49, 54, 49, 55, 49, 56, 49, 57, 50, 48, 50, 49, 50, 50, 50, 51, 50, 52, 50, 53, 50, 54, 50, 55, 50, 56, 50, 57, 51, 48, 51, 49, 51, 50, 51, 51, 51, 52, 51, 53, 51, 54, 51, 55, 51, 56, 51, 57, 52, 48, 52, 49, 52, 50, 52, 51, 52, 52, 52, 53, 52, 54, 52, 55, 52, 56, 52, 57, 53, 48, 53, 49, 53, 50, 53, 51, 53, 52, 53, 53, 53, 54, 53, 55, 53, 56, 53, 57, 54, 48, 54, 49, 54, 50, 54, 51, 54, 52, 54, 53, 54, 54, 54, 55, 54, 56, 54, 57, 55, 48, 55, 49, 55, 50, 55, 51, 55, 52, 55, 53, 55, 54, 55, 55, 55, 56, 55, 57, 56, 48, 56, 49, 56, 50, 56, 51, 56, 52, 56, 53, 56, 54, 56, 55, 56, 56, 56, 57, 57, 48, 57, 49, 57, 50, 57, 51, 57, 52, 57, 53, 57, 54, 57, 55, 57, 56, 57, 57] })) (.tmp 62)⟩,
        ⟨some 64, .none, false, 136, .move (.tmp 8)⟩,
        ⟨some 65, .none, false, 5, .index 9 (.const (.string { data := #[48, 48, 48, 49, 48, 50, 48, 51, 48, 52, 48, 53, 48, 54, 48, 55, 48, 56, 48, 57, 49, 48, 49, 49, 49, 50, 49, 51, 49, 52, 49, 53, 49, 54, 49, 55, 49, 56, 49, 57, 50, 48, 50, 49, 50, 50, 50, 51, 50, 52, 50, 53, 50, 54, 50, 55, 50, 56, 50, 57, 51, 48, 51, 49, 51, 50, 51, 51, 51, 52, 51, 53, 51, 54, 51, 55, 51, 56, 51, 57, 52, 48, 52, 49, 52, 50, 52, 51, 52, 52, 52, 53, 52, 54, 52, 55, 52, 56, 52, 57, 53, 48, 53, 49, 53, 50, 53, 51, 53, 52, 53, 53, 53, 54, 53, 55, 53, 56, 53, 57, 54, 48, 54, 49, 54, 50, 54, 51, 54, 52, 54, 53, 54, 54, 54, 55, 54, 56, 54, 57, 55, 48, 55, 49, 55, 50, 55, 51, 55, 52, 55, 53, 55, 54, 55, 55, 55, 56, 55, 57, 56, 48, 56, 49, 56, 50, 56, 51, 56, 52, 56, 53, 56, 54, 56, 55, 56, 56, 56, 57, 57, 48, 57, 49, 57, 50, 57, 51, 57, 52, 57, 53, 57, 54, 57, 55, 57, 56, 57, 57] })) (.tmp 64)⟩,
        ⟨some 66, .none, true, 0, .indexAddr 93 (.tmp 55) (.tmp 57)⟩,
        ⟨none, .none, true, 0, .store 5 (.tmp 66) (.tmp 63)⟩,
        ⟨some 67, .none, true, 0, .indexAddr 93 (.tmp 58) (.tmp 60)⟩,
        ⟨none, .none, true, 0, .store 5 (.tmp 67) (.tmp 65)⟩])
    (.keep [0, 1, 4, 10, 11]
    (.seq
      (.region [⟨some 68, .none, true, 93, .move (.tmp 0)⟩,
        ⟨some 69, .none, true, 3, .move (.tmp 4)⟩,
        ⟨some 70, .none, true, 3, .binOp .sub 3 (.tmp 69) (.const (.int .i64 5)) 3⟩,
        ⟨some 71, .none, false, 93, .move (.tmp 0)⟩,
        ⟨some 72, .none, false, 3, .move (.tmp 4)⟩,
        ⟨some 73, .none, false, 3, .binOp .sub 3 (.tmp 72) (.const (.int .i64 6)) 3⟩,
        ⟨some 74, .none, true, 136, .move (.tmp 11)⟩,
        ⟨some 75, .none, true, 136, .binOp .add 136 (.tmp 74) (.const (.int .u32 1)) 136⟩,
        ⟨some 76, .none, true, 5, .index 9 (.const (.string { data := #[48, 48, 48, 49, 48, 50, 48, 51, 48, 52, 48, 53, 48, 54, 48, 55, 48, 56, 48, 57, 49, 48, 49, 49, 49, 50, 49, 51, 49, 52, 49, 53, 49, 54, 49, 55, 49, 56, 49, 57, 50, 48, 50, 49, 50, 50, 50, 51, 50, 52, 50, 53, 50, 54, 50, 55, 50, 56, 50, 57, 51, 48, 51, 49, 51, 50, 51, 51, 51, 52, 51, 53, 51, 54, 51, 55, 51, 56, 51, 57, 52, 48, 52, 49, 52, 50, 52, 51, 52, 52, 52, 53, 52, 54, 52, 55, 52, 56, 52, 57, 53, 48, 53, 49, 53, 50, 53, 51, 53, 52, 53, 53, 53, 54, 53, 55, 53, 56, 53, 57, 54, 48, 54, 49, 54, 50, 54, 51, 54, 52, 54, 53, 54, 54, 54, 55, 54, 56, 54, 57, 55, 48, 55, 49, 55, 50, 55, 51, 55, 52, 55, 53, 55, 54, 55, 55, 55, 56, 55, 57, 56, 48, 56, 49, 56, 50, 56, 51, 56, 52, 56, 53, 56, 54, 56, 55, 56, 56, 56, 57, 57, 48, 57, 49, 57, 50, 57, 51, 57, 52, 57, 53, 57, 54, 57, 55, 57, 56, 57, 57] })) (.tmp 75)⟩,
        ⟨some 77, .none, false, 136, .move (.tmp 11)⟩,
        ⟨some 78, .none, false, 5, .index 9 (.const (.string { data := #[48, 48, 48, 49, 48, 50, 48, 51, 48, 52, 48, 53, 48, 54, 48, 55, 48, 56, 48, 57, 49, 48, 49, 49, 49, 50, 49, 51, 49, 52, 49, 53, 49, 54, 49, 55, 49, 56, 49, 57, 50, 48, 50, 49, 50, 50, 50, 51, 50, 52, 50, 53, 50, 54, 50, 55, 50, 56, 50, 57, 51, 48, 51, 49, 51, 50, 51, 51, 51, 52, 51, 53, 51, 54, 51, 55, 51, 56, 51, 57, 52, 48, 52, 49, 52, 50, 52, 51, 52, 52, 52, 53, 52, 54, 52, 55, 52, 56, 52, 57, 53, 48, 53, 49, 53, 50, 53, 51, 53, 52, 53, 53, 53, 54, 53, 55, 53, 56, 53, 57, 54, 48, 54, 49, 54, 50, 54, 51, 54, 52, 54, 53, 54, 54, 54, 55, 54, 56, 54, 57, 55, 48, 55, 49, 55, 50, 55, 51, 55, 52, 55, 53, 55, 54, 55, 55, 55, 56, 55, 57, 56, 48, 56, 49, 56, 50, 56, 51, 56, 52, 56, 53, 56, 54, 56, 55, 56, 56, 56, 57, 57, 48, 57, 49, 57, 50, 57, 51, 57, 52, 57, 53, 57, 54, 57, 55, 57, 56, 57, 57] })) (.tmp 77)⟩,
        ⟨some 79, .none, true, 0, .indexAddr 93 (.tmp 68) (.tmp 70)⟩,
        ⟨none, .none, true, 0, .store 5 (.tmp 79) (.tmp 76)⟩,
        ⟨some 80, .none, true, 0, .indexAddr 93 (.tmp 71) (.tmp 73)⟩,
        ⟨none, .none, true, 0, .store 5 (.tmp 80) (.tmp 78)⟩])
    (.keep [0, 1, 4, 10]
    (.seq
      (.region [⟨some 81, .none, true, 93, .move (.tmp 0)⟩,
        ⟨some 82, .none, true, 3, .move (.tmp 4)⟩,
        ⟨some 83, .none, true, 3, .binOp .sub 3 (.tmp 82) (.const (.int .i64 7)) 3⟩,
        ⟨some 84, .none, false, 93, .move (.tmp 0)⟩,
        ⟨some 85, .none, false, 3, .move (.tmp 4)⟩,
        ⟨some 86, .none, false, 3, .binOp .sub 3 (.tmp 85) (.const (.int .i64 8)) 3⟩,
        ⟨some 87, .none, true, 136, .move (.tmp 10)⟩,
        ⟨some 88, .none, true, 136, .binOp .add 136 (.tmp 87) (.const (.int .u32 1)) 136⟩,
        ⟨some 89, .none, true, 5, .index 9 (.const (.string { data := #[48, 48, 48, 49, 48, 50, 48, 51, 48, 52, 48, 53, 48, 54, 48, 55, 48, 56, 48, 57, 49, 48, 49, 49, 49, 50, 49, 51, 49, 52, 49, 53, 49, 54, 49, 55, 49, 56, 49, 57, 50, 48, 50, 49, 50, 50, 50, 51, 50, 52, 50, 53, 50, 54, 50, 55, 50, 56, 50, 57, 51, 48, 51, 49, 51, 50, 51, 51, 51, 52, 51, 53, 51, 54, 51, 55, 51, 56, 51, 57, 52, 48, 52, 49, 52, 50, 52, 51, 52, 52, 52, 53, 52, 54, 52, 55, 52, 56, 52, 57, 53, 48, 53, 49, 53, 50, 53, 51, 53, 52, 53, 53, 53, 54, 53, 55, 53, 56, 53, 57, 54, 48, 54, 49, 54, 50, 54, 51, 54, 52, 54, 53, 54, 54, 54, 55, 54, 56, 54, 57, 55, 48, 55, 49, 55, 50, 55, 51, 55, 52, 55, 53, 55, 54, 55, 55, 55, 56, 55, 57, 56, 48, 56, 49, 56, 50, 56, 51, 56, 52, 56, 53, 56, 54, 56, 55, 56, 56, 56, 57, 57, 48, 57, 49, 57, 50, 57, 51, 57, 52, 57, 53, 57, 54, 57, 55, 57, 56, 57, 57] })) (.tmp 88)⟩,
        ⟨some 90, .none, false, 136, .move (.tmp 10)⟩,
        ⟨some 91, .none, false, 5, .index 9 (.const (.string { data := #[48, 48, 48, 49, 48, 50, 48, 51, 48, 52, 48, 53, 48, 54, 48, 55, 48, 56, 48, 57, 49, 48, 49, 49, 49, 50, 49, 51, 49, 52, 49, 53, 49, 54, 49, 55, 49, 56, 49, 57, 50, 48, 50, 49, 50, 50, 50, 51, 50, 52, 50, 53, 50, 54, 50, 55, 50, 56, 50, 57, 51, 48, 51, 49, 51, 50, 51, 51, 51, 52, 51, 53, 51, 54, 51, 55, 51, 56, 51, 57, 52, 48, 52, 49, 52, 50, 52, 51, 52, 52, 52, 53, 52, 54, 52, 55, 52, 56, 52, 57, 53, 48, 53, 49, 53, 50, 53, 51, 53, 52, 53, 53, 53, 54, 53, 55, 53, 56, 53, 57, 54, 48, 54, 49, 54, 50, 54, 51, 54, 52, 54, 53, 54, 54, 54, 55, 54, 56, 54, 57, 55, 48, 55, 49, 55, 50, 55, 51, 55, 52, 55, 53, 55, 54, 55, 55, 55, 56, 55, 57, 56, 48, 56, 49, 56, 50, 56, 51, 56, 52, 56, 53, 56, 54, 56, 55, 56, 56, 56, 57, 57, 48, 57, 49, 57, 50, 57, 51, 57, 52, 57, 53, 57, 54, 57, 55, 57, 56, 57, 57] })) (.tmp 90)⟩,
        ⟨some 92, .none, true, 0, .indexAddr 93 (.tmp 81) (.tmp 83)⟩,
        ⟨none, .none, true, 0, .store 5 (.tmp 92) (.tmp 89)⟩,
        ⟨some 93, .none, true, 0, .indexAddr 93 (.tmp 84) (.tmp 86)⟩,
        ⟨none, .none, true, 0, .store 5 (.tmp 93) (.tmp 91)⟩])
    (.keep [0, 1, 4]
    (.region [⟨some 94, .none, true, 3, .move (.tmp 4)⟩,
      ⟨some 95, .none, true, 3, .binOp .sub 3 (.tmp 94) (.const (.int .i64 8)) 3⟩,
      ⟨some 4, .none, true, 3, .assign (.tmp 95)⟩])))))))))))))))))))))
def rc_internal_strconv_formatBase10 : RCode :=
  (.seq
    (.region [⟨some 17, .none, true, 93, .move (.tmp 0)⟩,
      ⟨some 18, .none, true, 3, .call { callee := .builtin .len, args := #[.tmp 17], argTypes := #[93] }⟩,
      ⟨some 4, .none, true, 3, .assign (.tmp 18)⟩])
  (.keep [0, 1, 4]
  (.seq
    (.block 0
      (.loop [0, 1, 4] rc_internal_strconv_formatBase10l0))
  (.keep [0, 1, 4]
  (.seq
    (.region [⟨some 96, .none, true, 27, .move (.tmp 1)⟩,
      ⟨some 97, .none, true, 136, .convert 27 136 (.tmp 96)⟩,
      ⟨some 12, .none, true, 136, .assign (.tmp 97)⟩])
  (.keep [0, 4, 12]
  (.seq
    (.seq
      (.region [⟨some 98, .none, true, 3, .move (.tmp 4)⟩,
        ⟨some 99, .none, true, 4, .binOp .geq 3 (.tmp 98) (.const (.int .i64 4)) 3⟩])
    (.keep [0, 4, 12, 99]
    (.cond (.tmp 99)
      (.seq
        (.region [⟨some 100, .none, true, 136, .move (.tmp 12)⟩,
          ⟨some 101, .none, true, 136, .binOp .rem 136 (.tmp 100) (.const (.int .u32 10000)) 136⟩,
          ⟨some 13, .none, true, 136, .assign (.tmp 101)⟩])
      (.keep [0, 4, 12, 13]
      (.seq
        (.region [⟨some 102, .none, true, 136, .move (.tmp 12)⟩,
          ⟨some 103, .none, true, 136, .binOp .quo 136 (.tmp 102) (.const (.int .u32 10000)) 136⟩,
          ⟨some 12, .none, true, 136, .assign (.tmp 103)⟩])
      (.keep [0, 4, 12, 13]
      (.seq
        (.region [⟨some 104, .none, true, 136, .move (.tmp 13)⟩,
          ⟨some 105, .none, true, 136, .binOp .quo 136 (.tmp 104) (.const (.int .u32 100)) 136⟩,
          ⟨some 106, .none, true, 136, .binOp .mul 136 (.tmp 105) (.const (.int .u32 2)) 136⟩,
          ⟨some 107, .none, true, 136, .move (.tmp 13)⟩,
          ⟨some 108, .none, true, 136, .binOp .rem 136 (.tmp 107) (.const (.int .u32 100)) 136⟩,
          ⟨some 109, .none, true, 136, .binOp .mul 136 (.tmp 108) (.const (.int .u32 2)) 136⟩,
          ⟨some 14, .none, true, 136, .assign (.tmp 106)⟩,
          ⟨some 15, .none, true, 136, .assign (.tmp 109)⟩])
      (.keep [0, 4, 12, 14, 15]
      (.seq
        (.region [⟨some 110, .none, true, 93, .move (.tmp 0)⟩,
          ⟨some 111, .none, true, 3, .move (.tmp 4)⟩,
          ⟨some 112, .none, true, 3, .binOp .sub 3 (.tmp 111) (.const (.int .i64 1)) 3⟩,
          ⟨some 113, .none, false, 93, .move (.tmp 0)⟩,
          ⟨some 114, .none, false, 3, .move (.tmp 4)⟩,
          ⟨some 115, .none, false, 3, .binOp .sub 3 (.tmp 114) (.const (.int .i64 2)) 3⟩,
          ⟨some 116, .none, true, 136, .move (.tmp 15)⟩,
          ⟨some 117, .none, true, 136, .binOp .add 136 (.tmp 116) (.const (.int .u32 1)) 136⟩,
          ⟨some 118, .none, true, 5, .index 9 (.const (.string { data := #[48, 48, 48, 49, 48, 50, 48, 51, 48, 52, 48, 53, 48, 54, 48, 55, 48, 56, 48, 57, 49, 48, 49, 49, 49, 50, 49, 51, 49, 52, 49, 53, 49, 54, 49, 55, 49, 56, 49, 57, 50, 48, 50, 49, 50, 50, 50, 51, 50, 52, 50, 53, 50, 54, 50, 55, 50, 56, 50, 57, 51, 48, 51, 49, 51, 50, 51, 51, 51, 52, 51, 53, 51, 54, 51, 55, 51, 56, 51, 57, 52, 48, 52, 49, 52, 50, 52, 51, 52, 52, 52, 53, 52, 54, 52, 55, 52, 56, 52, 57, 53, 48, 53, 49, 53, 50, 53, 51, 53, 52, 53, 53, 53, 54, 53, 55, 53, 56, 53, 57, 54, 48, 54, 49, 54, 50, 54, 51, 54, 52, 54, 53, 54, 54, 54, 55, 54, 56, 54, 57, 55, 48, 55, 49, 55, 50, 55, 51, 55, 52, 55, 53, 55, 54, 55, 55, 55, 56, 55, 57, 56, 48, 56, 49, 56, 50, 56, 51, 56, 52, 56, 53, 56, 54, 56, 55, 56, 56, 56, 57, 57, 48, 57, 49, 57, 50, 57, 51, 57, 52, 57, 53, 57, 54, 57, 55, 57, 56, 57, 57] })) (.tmp 117)⟩,
          ⟨some 119, .none, false, 136, .move (.tmp 15)⟩,
          ⟨some 120, .none, false, 5, .index 9 (.const (.string { data := #[48, 48, 48, 49, 48, 50, 48, 51, 48, 52, 48, 53, 48, 54, 48, 55, 48, 56, 48, 57, 49, 48, 49, 49, 49, 50, 49, 51, 49, 52, 49, 53, 49, 54, 49, 55, 49, 56, 49, 57, 50, 48, 50, 49, 50, 50, 50, 51, 50, 52, 50, 53, 50, 54, 50, 55, 50, 56, 50, 57, 51, 48, 51, 49, 51, 50, 51, 51, 51, 52, 51, 53, 51, 54, 51, 55, 51, 56, 51, 57, 52, 48, 52, 49, 52, 50, 52, 51, 52, 52, 52, 53, 52, 54, 52, 55, 52, 56, 52, 57, 53, 48, 53, 49, 53, 50, 53, 51, 53, 52, 53, 53, 53, 54, 53, 55, 53, 56, 53, 57, 54, 48, 54, 49, 54, 50, 54, 51, 54, 52, 54, 53, 54, 54, 54, 55, 54, 56, 54, 57, 55, 48, 55, 49, 55, 50, 55, 51, 55, 52, 55, 53, 55, 54, 55, 55, 55, 56, 55, 57, 56, 48, 56, 49, 56, 50, 56, 51, 56, 52, 56, 53, 56, 54, 56, 55, 56, 56, 56, 57, 57, 48, 57, 49, 57, 50, 57, 51, 57, 52, 57, 53, 57, 54, 57, 55, 57, 56, 57, 57] })) (.tmp 119)⟩,
          ⟨some 121, .none, true, 0, .indexAddr 93 (.tmp 110) (.tmp 112)⟩,
          ⟨none, .none, true, 0, .store 5 (.tmp 121) (.tmp 118)⟩,
          ⟨some 122, .none, true, 0, .indexAddr 93 (.tmp 113) (.tmp 115)⟩,
          ⟨none, .none, true, 0, .store 5 (.tmp 122) (.tmp 120)⟩])
      (.keep [0, 4, 12, 14]
      (.seq
        (.region [⟨some 123, .none, true, 93, .move (.tmp 0)⟩,
          ⟨some 124, .none, true, 3, .move (.tmp 4)⟩,
          ⟨some 125, .none, true, 3, .binOp .sub 3 (.tmp 124) (.const (.int .i64 3)) 3⟩,
          ⟨some 126, .none, false, 93, .move (.tmp 0)⟩,
          ⟨some 127, .none, false, 3, .move (.tmp 4)⟩,
          ⟨some 128, .none, false, 3, .binOp .sub 3 (.tmp 127) (.const (.int .i64 4)) 3⟩,
          ⟨some 129, .none, true, 136, .move (.tmp 14)⟩,
          ⟨some 130, .none, true, 136, .binOp .add 136 (.tmp 129) (.const (.int .u32 1)) 136⟩,
          ⟨some 131, .none, true, 5, .index 9 (.const (.string { data := #[48, 48, 48, 49, 48, 50, 48, 51, 48, 52, 48, 53, 48, 54, 48, 55, 48, 56, 48, 57, 49, 48, 49, 49, 49, 50, 49, 51, 49, 52, 49, 53, 49, 54, 49, 55, 49, 56, 49, 57, 50, 48, 50, 49, 50, 50, 50, 51, 50, 52, 50, 53, 50, 54, 50, 55, 50, 56, 50, 57, 51, 48, 51, 49, 51, 50, 51, 51, 51, 52, 51, 53, 51, 54, 51, 55, 51, 56, 51, 57, 52, 48, 52, 49, 52, 50, 52, 51, 52, 52, 52, 53, 52, 54, 52, 55, 52, 56, 52, 57, 53, 48, 53, 49, 53, 50, 53, 51, 53, 52, 53, 53, 53, 54, 53, 55, 53, 56, 53, 57, 54, 48, 54, 49, 54, 50, 54, 51, 54, 52, 54, 53, 54, 54, 54, 55, 54, 56, 54, 57, 55, 48, 55, 49, 55, 50, 55, 51, 55, 52, 55, 53, 55, 54, 55, 55, 55, 56, 55, 57, 56, 48, 56, 49, 56, 50, 56, 51, 56, 52, 56, 53, 56, 54, 56, 55, 56, 56, 56, 57, 57, 48, 57, 49, 57, 50, 57, 51, 57, 52, 57, 53, 57, 54, 57, 55, 57, 56, 57, 57] })) (.tmp 130)⟩,
          ⟨some 132, .none, false, 136, .move (.tmp 14)⟩,
          ⟨some 133, .none, false, 5, .index 9 (.const (.string { data := #[48, 48, 48, 49, 48, 50, 48, 51, 48, 52, 48, 53, 48, 54, 48, 55, 48, 56, 48, 57, 49, 48, 49, 49, 49, 50, 49, 51, 49, 52, 49, 53, 49, 54, 49, 55, 49, 56, 49, 57, 50, 48, 50, 49, 50, 50, 50, 51, 50, 52, 50, 53, 50, 54, 50, 55, 50, 56, 50, 57, 51, 48, 51, 49, 51, 50, 51, 51, 51, 52, 51, 53, 51, 54, 51, 55, 51, 56, 51, 57, 52, 48, 52, 49, 52, 50, 52, 51, 52, 52, 52, 53, 52, 54, 52, 55, 52, 56, 52, 57, 53, 48, 53, 49, 53, 50, 53, 51, 53, 52, 53, 53, 53, 54, 53, 55, 53, 56, 53, 57, 54, 48, 54, 49, 54, 50, 54, 51, 54, 52, 54, 53, 54, 54, 54, 55, 54, 56, 54, 57, 55, 48, 55, 49, 55, 50, 55, 51, 55, 52, 55, 53, 55, 54, 55, 55, 55, 56, 55, 57, 56, 48, 56, 49, 56, 50, 56, 51, 56, 52, 56, 53, 56, 54, 56, 55, 56, 56, 56, 57, 57, 48, 57, 49, 57, 50, 57, 51, 57, 52, 57, 53, 57, 54, 57, 55, 57, 56, 57, 57] })) (.tmp 132)⟩,
          ⟨some 134, .none, true, 0, .indexAddr 93 (.tmp 123) (.tmp 125)⟩,
          ⟨none, .none, true, 0, .store 5 (.tmp 134) (.tmp 131)⟩,
          ⟨some 135, .none, true, 0, .indexAddr 93 (.tmp 126) (.tmp 128)⟩,
          ⟨none, .none, true, 0, .store 5 (.tmp 135) (.tmp 133)⟩])
      (.keep [0, 4, 12]
      (.region [⟨some 136, .none, true, 3, .move (.tmp 4)⟩,
        ⟨some 137, .none, true, 3, .binOp .sub 3 (.tmp 136) (.const (.int .i64 4)) 3⟩,
        ⟨some 4, .none, true, 3, .assign (.tmp 137)⟩])))))))))))
      .skip)))
  (.seq
    (.seq
      (.region [⟨some 138, .none, true, 3, .move (.tmp 4)⟩,
        ⟨some 139, .none, true, 4, .binOp .geq 3 (.tmp 138) (.const (.int .i64 2)) 3⟩])
    (.keep [0, 4, 12, 139]
    (.cond (.tmp 139)
      (.seq
        (.region [⟨some 140, .none, true, 136, .move (.tmp 12)⟩,
          ⟨some 141, .none, true, 136, .binOp .rem 136 (.tmp 140) (.const (.int .u32 100)) 136⟩,
          ⟨some 142, .none, true, 136, .binOp .mul 136 (.tmp 141) (.const (.int .u32 2)) 136⟩,
          ⟨some 16, .none, true, 136, .assign (.tmp 142)⟩])
      (.keep [0, 4, 12, 16]
      (.seq
        (.region [⟨some 143, .none, true, 136, .move (.tmp 12)⟩,
          ⟨some 144, .none, true, 136, .binOp .quo 136 (.tmp 143) (.const (.int .u32 100)) 136⟩,
          ⟨some 12, .none, true, 136, .assign (.tmp 144)⟩])
      (.keep [0, 4, 12, 16]
      (.seq
        (.region [⟨some 145, .none, true, 93, .move (.tmp 0)⟩,
          ⟨some 146, .none, true, 3, .move (.tmp 4)⟩,
          ⟨some 147, .none, true, 3, .binOp .sub 3 (.tmp 146) (.const (.int .i64 1)) 3⟩,
          ⟨some 148, .none, false, 93, .move (.tmp 0)⟩,
          ⟨some 149, .none, false, 3, .move (.tmp 4)⟩,
          ⟨some 150, .none, false, 3, .binOp .sub 3 (.tmp 149) (.const (.int .i64 2)) 3⟩,
          ⟨some 151, .none, true, 136, .move (.tmp 16)⟩,
          ⟨some 152, .none, true, 136, .binOp .add 136 (.tmp 151) (.const (.int .u32 1)) 136⟩,
          ⟨some 153, .none, true, 5, .index 9 (.const (.string { data := #[48, 48, 48, 49, 48, 50, 48, 51, 48, 52, 48, 53, 48, 54, 48, 55, 48, 56, 48, 57, 49, 48, 49, 49, 49, 50, 49, 51, 49, 52, 49, 53, 49, 54, 49, 55, 49, 56, 49, 57, 50, 48, 50, 49, 50, 50, 50, 51, 50, 52, 50, 53, 50, 54, 50, 55, 50, 56, 50, 57, 51, 48, 51, 49, 51, 50, 51, 51, 51, 52, 51, 53, 51, 54, 51, 55, 51, 56, 51, 57, 52, 48, 52, 49, 52, 50, 52, 51, 52, 52, 52, 53, 52, 54, 52, 55, 52, 56, 52, 57, 53, 48, 53, 49, 53, 50, 53, 51, 53, 52, 53, 53, 53, 54, 53, 55, 53, 56, 53, 57, 54, 48, 54, 49, 54, 50, 54, 51, 54, 52, 54, 53, 54, 54, 54, 55, 54, 56, 54, 57, 55, 48, 55, 49, 55, 50, 55, 51, 55, 52, 55, 53, 55, 54, 55, 55, 55, 56, 55, 57, 56, 48, 56, 49, 56, 50, 56, 51, 56, 52, 56, 53, 56, 54, 56, 55, 56, 56, 56, 57, 57, 48, 57, 49, 57, 50, 57, 51, 57, 52, 57, 53, 57, 54, 57, 55, 57, 56, 57, 57] })) (.tmp 152)⟩,
          ⟨some 154, .none, false, 136, .move (.tmp 16)⟩,
          ⟨some 155, .none, false, 5, .index 9 (.const (.string { data := #[48, 48, 48, 49, 48, 50, 48, 51, 48, 52, 48, 53, 48, 54, 48, 55, 48, 56, 48, 57, 49, 48, 49, 49, 49, 50, 49, 51, 49, 52, 49, 53, 49, 54, 49, 55, 49, 56, 49, 57, 50, 48, 50, 49, 50, 50, 50, 51, 50, 52, 50, 53, 50, 54, 50, 55, 50, 56, 50, 57, 51, 48, 51, 49, 51, 50, 51, 51, 51, 52, 51, 53, 51, 54, 51, 55, 51, 56, 51, 57, 52, 48, 52, 49, 52, 50, 52, 51, 52, 52, 52, 53, 52, 54, 52, 55, 52, 56, 52, 57, 53, 48, 53, 49, 53, 50, 53, 51, 53, 52, 53, 53, 53, 54, 53, 55, 53, 56, 53, 57, 54, 48, 54, 49, 54, 50, 54, 51, 54, 52, 54, 53, 54, 54, 54, 55, 54, 56, 54, 57, 55, 48, 55, 49, 55, 50, 55, 51, 55, 52, 55, 53, 55, 54, 55, 55, 55, 56, 55, 57, 56, 48, 56, 49, 56, 50, 56, 51, 56, 52, 56, 53, 56, 54, 56, 55, 56, 56, 56, 57, 57, 48, 57, 49, 57, 50, 57, 51, 57, 52, 57, 53, 57, 54, 57, 55, 57, 56, 57, 57] })) (.tmp 154)⟩,
          ⟨some 156, .none, true, 0, .indexAddr 93 (.tmp 145) (.tmp 147)⟩,
          ⟨none, .none, true, 0, .store 5 (.tmp 156) (.tmp 153)⟩,
          ⟨some 157, .none, true, 0, .indexAddr 93 (.tmp 148) (.tmp 150)⟩,
          ⟨none, .none, true, 0, .store 5 (.tmp 157) (.tmp 155)⟩])
      (.keep [0, 4, 12]
      (.region [⟨some 158, .none, true, 3, .move (.tmp 4)⟩,
        ⟨some 159, .none, true, 3, .binOp .sub 3 (.tmp 158) (.const (.int .i64 2)) 3⟩,
        ⟨some 4, .none, true, 3, .assign (.tmp 159)⟩])))))))
      .skip)))
  (.seq
    (.region [⟨some 160, .none, true, 3, .move (.tmp 4)⟩,
      ⟨some 161, .none, true, 4, .binOp .gtr 3 (.tmp 160) (.const (.int .i64 0)) 3⟩])
  (.keep [0, 12, 161]
  (.cond (.tmp 161)
    (.region [⟨some 162, .none, true, 93, .move (.tmp 0)⟩,
      ⟨some 163, .none, true, 136, .move (.tmp 12)⟩,
      ⟨some 164, .none, true, 136, .binOp .add 136 (.const (.int .u32 48)) (.tmp 163) 136⟩,
      ⟨some 165, .none, true, 5, .convert 136 5 (.tmp 164)⟩,
      ⟨some 166, .none, true, 0, .indexAddr 93 (.tmp 162) (.const (.int .i64 0))⟩,
      ⟨none, .none, true, 0, .store 5 (.tmp 166) (.tmp 165)⟩])
    .skip)))))))))))
theorem t_internal_strconv_formatBase10 : FnT Tryd.prog f_internal_strconv_formatBase10 rc_internal_strconv_formatBase10 [] 2 := ⟨⟨[], Tryd.f92, _, Tryd.func92, rfl, by kernel_rfl, by kernel_rfl, by kernel_rfl, rfl, by decide⟩, by kernel_rfl⟩
/-- internal/strconv.formatBits -/
abbrev f_internal_strconv_formatBits : FuncId := 93
def rc_internal_strconv_formatBitsl0 : RCode :=
  (.seq
    (.seq
      (.region [⟨some 44, .none, true, 27, .move (.tmp 1)⟩,
        ⟨some 45, .none, true, 27, .move (.tmp 15)⟩,
        ⟨some 46, .none, true, 4, .binOp .geq 27 (.tmp 44) (.tmp 45) 27⟩])
    (.keep [0, 1, 3, 4, 10, 11, 12, 13, 14, 15, 16, 46]
    (.cond (.tmp 46)
      .skip
      (.exit 0))))
  (.block 1
    (.seq
      (.region [⟨some 47, .none, true, 3, .move (.tmp 13)⟩,
        ⟨some 48, .none, true, 3, .binOp .sub 3 (.tmp 47) (.const (.int .i64 1)) 3⟩,
        ⟨some 13, .none, true, 3, .assign (.tmp 48)⟩])
    (.keep [0, 1, 3, 4, 10, 11, 12, 13, 14, 15, 16]
    (.seq
      (.region [⟨some 49, .none, true, 3, .move (.tmp 13)⟩,
        ⟨some 50, .none, true, 27, .move (.tmp 1)⟩,
        ⟨some 51, .none, true, 85, .move (.tmp 16)⟩,
        ⟨some 52, .none, true, 85, .binOp .and 85 (.tmp 50) (.tmp 51) 85⟩,
        ⟨some 53, .none, true, 5, .index 9 (.const (.string { data := #[48, 49, 50, 51, 52, 53, 54, 55, 56, 57, 97, 98, 99, 100, 101, 102, 103, 104, 105, 106, 107, 108, 109, 110, 111, 112, 113, 114, 115, 116, 117, 118, 119, 120, 121, 122] })) (.tmp 52)⟩,
        ⟨some 54, .none, true, 0, .indexAddr 137 (.tmp 12) (.tmp 49)⟩,
        ⟨none, .none, true, 0, .store 5 (.tmp 54) (.tmp 53)⟩])
    (.keep [0, 1, 3, 4, 10, 11, 12, 13, 14, 15, 16]
    (.region [⟨some 55, .none, true, 27, .move (.tmp 1)⟩,
      ⟨some 56, .none, true, 85, .move (.tmp 14)⟩,
      ⟨some 57, .none, true, 27, .binOp .shr 27 (.tmp 55) (.tmp 56) 85⟩,
      ⟨some 1, .none, true, 27, .assign (.tmp 57)⟩])))))))
def rc_internal_strconv_formatBitsl1 : RCode :=
  (.seq
    (.seq
      (.region [⟨some 66, .none, true, 27, .move (.tmp 1)⟩,
        ⟨some 67, .none, true, 27, .move (.tmp 17)⟩,
        ⟨some 68, .none, true, 4, .binOp .geq 27 (.tmp 66) (.tmp 67) 27⟩])
    (.keep [0, 1, 3, 4, 10, 11, 12, 13, 17, 68]
    (.cond (.tmp 68)
      .skip
      (.exit 2))))
  (.block 3
    (.seq
      (.region [⟨some 69, .none, true, 3, .move (.tmp 13)⟩,
        ⟨some 70, .none, true, 3, .binOp .sub 3 (.tmp 69) (.const (.int .i64 1)) 3⟩,
        ⟨some 13, .none, true, 3, .assign (.tmp 70)⟩])
    (.keep [0, 1, 3, 4, 10, 11, 12, 13, 17]
    (.seq
      (.region [⟨some 71, .none, true, 27, .move (.tmp 1)⟩,
        ⟨some 72, .none, true, 27, .move (.tmp 17)⟩,
        ⟨some 73, .none, true, 27, .binOp .quo 27 (.tmp 71) (.tmp 72) 27⟩,
        ⟨some 18, .none, true, 27, .assign (.tmp 73)⟩])
    (.keep [0, 1, 3, 4, 10, 11, 12, 13, 17, 18]
    (.seq
      (.region [⟨some 74, .none, true, 3, .move (.tmp 13)⟩,
        ⟨some 75, .none, true, 27, .move (.tmp 1)⟩,
        ⟨some 76, .none, true, 27, .move (.tmp 18)⟩,
        ⟨some 77, .none, true, 27, .move (.tmp 17)⟩,
        ⟨some 78, .none, true, 27, .binOp .mul 27 (.tmp 76) (.tmp 77) 27⟩,
        ⟨some 79, .none, true, 27, .binOp .sub 27 (.tmp 75) (.tmp 78) 27⟩,
        ⟨some 80, .none, true, 5, .index 9 (.const (.string { data := #[48, 49, 50, 51, 52, 53, 54, 55, 56, 57, 97, 98, 99, 100, 101, 102, 103, 104, 105, 106, 107, 108, 109, 110, 111, 112, 113, 114, 115, 116, 117, 118, 119, 120, 121, 122] })) (.tmp 79)⟩,
        ⟨some 81, .none, true, 0, .indexAddr 137 (.tmp 12) (.tmp 74)⟩,
        ⟨none, .none, true, 0, .store 5 (.tmp 81) (.tmp 80)⟩])
    (.keep [0, 3, 4, 10, 11, 12, 13, 17, 18]
    (.region [⟨some 82, .none, true, 27, .move (.tmp 18)⟩,
      ⟨some 1, .none, true, 27, .assign (.tmp 82)⟩])))))))))
def rc_internal_strconv_formatBits : RCode :=
  (.seq
    (.region [⟨some 10, .none, true, 93, .assign (.const (.slice none 0 0))⟩,
      ⟨some 11, .none, true, 9, .assign (.const (.string { data := #[] }))⟩])
  (.keep [0, 1, 2, 3, 4, 10, 11]
  (.seq
    (.seq
      (.region [⟨some 19, .none, true, 3, .move (.tmp 2)⟩,
        ⟨some 20, .none, true, 4, .binOp .lss 3 (.tmp 19) (.const (.int .i64 2)) 3⟩,
        ⟨some 21, .none, true, 4, .move (.tmp 20)⟩,
        ⟨some 22, .some 21 false, true, 3, .move (.tmp 2)⟩,
        ⟨some 23, .some 21 false, true, 4, .binOp .eql 3 (.tmp 22) (.const (.int .i64 10)) 3⟩,
        ⟨some 24, .none, true, 4, .pick (.tmp 21) (.const (.bool true)) (.tmp 23)⟩,
        ⟨some 25, .none, true, 4, .move (.tmp 24)⟩,
        ⟨some 26, .some 25 false, true, 3, .move (.tmp 2)⟩,
        ⟨some 27, .some 25 false, true, 4, .binOp .gtr 3 (.tmp 26) (.const (.int .i64 36)) 3⟩,
        ⟨some 28, .none, true, 4, .pick (.tmp 25) (.const (.bool true)) (.tmp 27)⟩])
    (.keep [0, 1, 2, 3, 4, 10, 11, 28]
    (.cond (.tmp 28)
      (.region [⟨some 29, .none, true, 20, .makeInterface 9 (.const (.string { data := #[115, 116, 114, 99, 111, 110, 118, 58, 32, 105, 108, 108, 101, 103, 97, 108, 32, 65, 112, 112, 101, 110, 100, 73, 110, 116, 47, 70, 111, 114, 109, 97, 116, 73, 110, 116, 32, 98, 97, 115, 101] }))⟩,
        ⟨none, .none, true, 0, .panic (.tmp 29)⟩])
      .skip)))
  (.seq
    (.region [⟨some 12, .none, true, 0, .alloc 137⟩])
  (.keep [0, 1, 2, 3, 4, 10, 11, 12]
  (.seq
    (.region [⟨some 13, .none, true, 3, .assign (.const (.int .i64 65))⟩])
  (.keep [0, 1, 2, 3, 4, 10, 11, 12, 13]
  (.seq
    (.seq
      (.region [⟨some 30, .none, true, 4, .move (.tmp 3)⟩])
    (.keep [0, 1, 2, 3, 4, 10, 11, 12, 13, 30]
    (.cond (.tmp 30)
      (.region [⟨some 31, .none, true, 27, .move (.tmp 1)⟩,
        ⟨some 32, .none, true, 27, .unOp .neg 27 (.tmp 31)⟩,
        ⟨some 1, .none, true, 27, .assign (.tmp 32)⟩])
      .skip)))
  (.seq
    (.seq
      (.region [⟨some 33, .none, true, 3, .move (.tmp 2)⟩,
        ⟨some 34, .none, true, 4, .call { callee := .value (.func 106), args := #[.tmp 33], argTypes := #[3] }⟩])
    (.keep [0, 1, 2, 3, 4, 10, 11, 12, 13, 34]
    (.cond (.tmp 34)
      (.seq
        (.region [⟨some 35, .none, true, 3, .move (.tmp 2)⟩,
          ⟨some 36, .none, true, 85, .convert 3 85 (.tmp 35)⟩,
          ⟨some 37, .none, true, 3, .call { callee := .value (.func 107), args := #[.tmp 36], argTypes := #[85] }⟩,
          ⟨some 38, .none, true, 85, .convert 3 85 (.tmp 37)⟩,
          ⟨some 14, .none, true, 85, .assign (.tmp 38)⟩])
      (.keep [0, 1, 2, 3, 4, 10, 11, 12, 13, 14]
      (.seq
        (.region [⟨some 39, .none, true, 3, .move (.tmp 2)⟩,
          ⟨some 40, .none, true, 27, .convert 3 27 (.tmp 39)⟩,
          ⟨some 15, .none, true, 27, .assign (.tmp 40)⟩])
      (.keep [0, 1, 2, 3, 4, 10, 11, 12, 13, 14, 15]
      (.seq
        (.region [⟨some 41, .none, true, 3, .move (.tmp 2)⟩,
          ⟨some 42, .none, true, 85, .convert 3 85 (.tmp 41)⟩,
          ⟨some 43, .none, true, 85, .binOp .sub 85 (.tmp 42) (.const (.int .u64 1)) 85⟩,
          ⟨some 16, .none, true, 85, .assign (.tmp 43)⟩])
      (.keep [0, 1, 3, 4, 10, 11, 12, 13, 14, 15, 16]
      (.seq
        (.block 0
          (.loop [0, 1, 3, 4, 10, 11, 12, 13, 14, 15, 16] rc_internal_strconv_formatBitsl0))
      (.keep [0, 1, 3, 4, 10, 11, 12, 13]
      (.seq
        (.region [⟨some 58, .none, true, 3, .move (.tmp 13)⟩,
          ⟨some 59, .none, true, 3, .binOp .sub 3 (.tmp 58) (.const (.int .i64 1)) 3⟩,
          ⟨some 13, .none, true, 3, .assign (.tmp 59)⟩])
      (.keep [0, 1, 3, 4, 10, 11, 12, 13]
      (.region [⟨some 60, .none, true, 3, .move (.tmp 13)⟩,
        ⟨some 61, .none, true, 27, .move (.tmp 1)⟩,
        ⟨some 62, .none, true, 5, .index 9 (.const (.string { data := #[48, 49, 50, 51, 52, 53, 54, 55, 56, 57, 97, 98, 99, 100, 101, 102, 103, 104, 105, 106, 107, 108, 109, 110, 111, 112, 113, 114, 115, 116, 117, 118, 119, 120, 121, 122] })) (.tmp 61)⟩,
        ⟨some 63, .none, true, 0, .indexAddr 137 (.tmp 12) (.tmp 60)⟩,
        ⟨none, .none, true, 0, .store 5 (.tmp 63) (.tmp 62)⟩])))))))))))
      (.seq
        (.region [⟨some 64, .none, true, 3, .move (.tmp 2)⟩,
          ⟨some 65, .none, true, 27, .convert 3 27 (.tmp 64)⟩,
          ⟨some 17, .none, true, 27, .assign (.tmp 65)⟩])
      (.keep [0, 1, 3, 4, 10, 11, 12, 13, 17]
      (.seq
        (.block 2
          (.loop [0, 1, 3, 4, 10, 11, 12, 13, 17] rc_internal_strconv_formatBitsl1))
      (.keep [0, 1, 3, 4, 10, 11, 12, 13]
      (.seq
        (.region [⟨some 83, .none, true, 3, .move (.tmp 13)⟩,
          ⟨some 84, .none, true, 3, .binOp .sub 3 (.tmp 83) (.const (.int .i64 1)) 3⟩,
          ⟨some 13, .none, true, 3, .assign (.tmp 84)⟩])
      (.keep [0, 1, 3, 4, 10, 11, 12, 13]
      (.region [⟨some 85, .none, true, 3, .move (.tmp 13)⟩,
        ⟨some 86, .none, true, 27, .move (.tmp 1)⟩,
        ⟨some 87, .none, true, 5, .index 9 (.const (.string { data := #[48, 49, 50, 51, 52, 53, 54, 55, 56, 57, 97, 98, 99, 100, 101, 102, 103, 104, 105, 106, 107, 108, 109, 110, 111, 112, 113, 114, 115, 116, 117, 118, 119, 120, 121, 122] })) (.tmp 86)⟩,
        ⟨some 88, .none, true, 0, .indexAddr 137 (.tmp 12) (.tmp 85)⟩,
        ⟨none, .none, true, 0, .store 5 (.tmp 88) (.tmp 87)⟩]))))))))))
  (.seq
    (.seq
      (.region [⟨some 89, .none, true, 4, .move (.tmp 3)⟩])
    (.keep [0, 4, 10, 11, 12, 13, 89]
    (.cond (.tmp 89)
      (.seq
        (.region [⟨some 90, .none, true, 3, .move (.tmp 13)⟩,
          ⟨some 91, .none, true, 3, .binOp .sub 3 (.tmp 90) (.const (.int .i64 1)) 3⟩,
          ⟨some 13, .none, true, 3, .assign (.tmp 91)⟩])
      (.keep [0, 4, 10, 11, 12, 13]
      (.region [⟨some 92, .none, true, 3, .move (.tmp 13)⟩,
        ⟨some 93, .none, true, 0, .indexAddr 137 (.tmp 12) (.tmp 92)⟩,
        ⟨none, .none, true, 0, .store 5 (.tmp 93) (.const (.int .u8 45))⟩])))
      .skip)))
  (.seq
    (.seq
      (.region [⟨some 94, .none, true, 4, .move (.tmp 4)⟩])
    (.keep [0, 10, 11, 12, 13, 94]
    (.cond (.tmp 94)
      (.seq
        (.region [⟨some 95, .none, true, 93, .move (.tmp 0)⟩,
          ⟨some 96, .none, true, 3, .move (.tmp 13)⟩,
          ⟨some 97, .none, true, 93, .slice 137 (.tmp 12) (some (.tmp 96)) none none⟩,
          ⟨some 98, .none, true, 93, .call { callee := .builtin .append, args := #[.tmp 95, .tmp 97], argTypes := #[93, 93] }⟩,
          ⟨some 10, .none, true, 93, .assign (.tmp 98)⟩])
      .ret)
      .skip)))
  (.seq
    (.region [⟨some 99, .none, true, 3, .move (.tmp 13)⟩,
      ⟨some 100, .none, true, 93, .slice 137 (.tmp 12) (some (.tmp 99)) none none⟩,
      ⟨some 101, .none, true, 9, .convert 93 9 (.tmp 100)⟩,
      ⟨some 11, .none, true, 9, .assign (.tmp 101)⟩])
  .ret))))))))))))
theorem t_internal_strconv_formatBits : FnT Tryd.prog f_internal_strconv_formatBits rc_internal_strconv_formatBits [.tmp 10, .tmp 11] 5 := ⟨⟨[], Tryd.f93, _, Tryd.func93, rfl, by kernel_rfl, by kernel_rfl, by kernel_rfl, rfl, by decide⟩, by kernel_rfl⟩
/-- unicode/utf8.RuneCountInString -/
abbrev f_unicode_utf8_RuneCountInString : FuncId := 96
def rc_unicode_utf8_RuneCountInStringl0 : RCode :=
  (.seq
    (.region [⟨some 5, .none, true, 0, .next (.tmp 4) true⟩,
      ⟨some 6, .none, true, 4, .extract (.tmp 5) 0⟩])
  (.keep [2, 4, 6]
  (.seq
    (.cond (.tmp 6)
      .skip
      (.exit 0))
  (.keep [2, 4]
  (.block 1
    (.region [⟨some 7, .none, true, 3, .move (.tmp 2)⟩,
      ⟨some 8, .none, true, 3, .binOp .add 3 (.tmp 7) (.const (.int .i64 1)) 3⟩,
      ⟨some 2, .none, true, 3, .assign (.tmp 8)⟩]))))))
def rc_unicode_utf8_RuneCountInString : RCode :=
  (.seq
    (.region [⟨some 2, .none, true, 3, .assign (.const (.int .i64 0))⟩])
  (.keep [0, 2]
  (.seq
    (.seq
      (.region [⟨some 3, .none, true, 9, .move (.tmp 0)⟩,
        ⟨some 4, .none, true, 0, .range 9 (.tmp 3)⟩])
    (.keep [2, 4]
    (.block 0
      (.loop [2, 4] rc_unicode_utf8_RuneCountInStringl0))))
  (.seq
    (.region [⟨some 9, .none, true, 3, .move (.tmp 2)⟩,
      ⟨some 2, .none, true, 3, .assign (.tmp 9)⟩])
  .ret))))
theorem t_unicode_utf8_RuneCountInString : FnT Tryd.prog f_unicode_utf8_RuneCountInString rc_unicode_utf8_RuneCountInString [.tmp 2] 1 := ⟨⟨[], Tryd.f96, _, Tryd.func96, rfl, by kernel_rfl, by kernel_rfl, by kernel_rfl, rfl, by decide⟩, by kernel_rfl⟩
/-- unicode/utf8.DecodeRuneInString -/
abbrev f_unicode_utf8_DecodeRuneInString : FuncId := 97
def rc_unicode_utf8_DecodeRuneInString : RCode :=
  (.seq
    (.region [⟨some 2, .none, true, 21, .assign (.const (.int .i32 0))⟩,
      ⟨some 3, .none, true, 3, .assign (.const (.int .i64 0))⟩])
  (.keep [0]
  (.seq
    (.seq
      (.region [⟨some 4, .none, true, 9, .move (.tmp 0)⟩,
        ⟨some 5, .none, true, 4, .binOp .neq 9 (.tmp 4) (.const (.string { data := #[] })) 9⟩,
        ⟨some 6, .none, true, 4, .move (.tmp 5)⟩,
        ⟨some 7, .some 6 true, true, 9, .move (.tmp 0)⟩,
        ⟨some 8, .some 6 true, true, 5, .index 9 (.tmp 7) (.const (.int .i64 0))⟩,
        ⟨some 9, .some 6 true, true, 4, .binOp .lss 5 (.tmp 8) (.const (.int .u8 128)) 5⟩,
        ⟨some 10, .none, true, 4, .pick (.tmp 6) (.tmp 9) (.const (.bool false))⟩])
    (.keep [0, 10]
    (.cond (.tmp 10)
      (.seq
        (.region [⟨some 11, .none, true, 9, .move (.tmp 0)⟩,
          ⟨some 12, .none, true, 5, .index 9 (.tmp 11) (.const (.int .i64 0))⟩,
          ⟨some 13, .none, true, 21, .convert 5 21 (.tmp 12)⟩,
          ⟨some 2, .none, true, 21, .assign (.tmp 13)⟩,
          ⟨some 3, .none, true, 3, .assign (.const (.int .i64 1))⟩])
      .ret)
      (.region [⟨some 15, .none, true, 9, .move (.tmp 0)⟩,
        ⟨some 16, .none, true, 125, .call { callee := .value (.func 108), args := #[.tmp 15], argTypes := #[9] }⟩,
        ⟨some 14, .none, true, 125, .move (.tmp 16)⟩,
        ⟨some 17, .none, true, 21, .extract (.tmp 14) 0⟩,
        ⟨some 18, .none, true, 3, .extract (.tmp 14) 1⟩,
        ⟨some 2, .none, true, 21, .assign (.tmp 17)⟩,
        ⟨some 3, .none, true, 3, .assign (.tmp 18)⟩]))))
  .ret)))
theorem t_unicode_utf8_DecodeRuneInString : FnT Tryd.prog f_unicode_utf8_DecodeRuneInString rc_unicode_utf8_DecodeRuneInString [.tmp 2, .tmp 3] 1 := ⟨⟨[], Tryd.f97, _, Tryd.func97, rfl, by kernel_rfl, by kernel_rfl, by kernel_rfl, rfl, by decide⟩, by kernel_rfl⟩
/-- internal/stringslite.Index -/
abbrev f_internal_stringslite_Index : FuncId := 99
def rc_internal_stringslite_Indexl0 : RCode :=
  (.seq
    (.seq
      (.region [⟨some 57, .none, true, 3, .move (.tmp 8)⟩,
        ⟨some 58, .none, true, 3, .move (.tmp 9)⟩,
        ⟨some 59, .none, true, 4, .binOp .lss 3 (.tmp 57) (.tmp 58) 3⟩])
    (.keep [0, 1, 5, 6, 7, 8, 9, 10, 59]
    (.cond (.tmp 59)
      .skip
      (.exit 1))))
  (.block 2
    (.seq
      (.seq
        (.region [⟨some 60, .none, true, 9, .move (.tmp 0)⟩,
          ⟨some 61, .none, true, 3, .move (.tmp 8)⟩,
          ⟨some 62, .none, true, 5, .index 9 (.tmp 60) (.tmp 61)⟩,
          ⟨some 63, .none, true, 5, .move (.tmp 6)⟩,
          ⟨some 64, .none, true, 4, .binOp .neq 5 (.tmp 62) (.tmp 63) 5⟩])
      (.keep [0, 1, 5, 6, 7, 8, 9, 10, 64]
      (.cond (.tmp 64)
        (.seq
          (.region [⟨some 65, .none, true, 9, .move (.tmp 0)⟩,
            ⟨some 66, .none, true, 3, .move (.tmp 8)⟩,
            ⟨some 67, .none, true, 3, .binOp .add 3 (.tmp 66) (.const (.int .i64 1)) 3⟩,
            ⟨some 68, .none, true, 3, .move (.tmp 9)⟩,
            ⟨some 69, .none, true, 9, .slice 9 (.tmp 65) (some (.tmp 67)) (some (.tmp 68)) none⟩,
            ⟨some 70, .none, true, 5, .move (.tmp 6)⟩,
            ⟨some 71, .none, true, 3, .call { callee := .value (.func 109), args := #[.tmp 69, .tmp 70], argTypes := #[9, 5] }⟩,
            ⟨some 11, .none, true, 3, .assign (.tmp 71)⟩])
        (.keep [0, 1, 5, 6, 7, 8, 9, 10, 11]
        (.seq
          (.seq
            (.region [⟨some 72, .none, true, 3, .move (.tmp 11)⟩,
              ⟨some 73, .none, true, 4, .binOp .lss 3 (.tmp 72) (.const (.int .i64 0)) 3⟩])
          (.keep [0, 1, 5, 6, 7, 8, 9, 10, 11, 73]
          (.cond (.tmp 73)
            (.seq
              (.region [⟨some 4, .none, true, 3, .assign (.const (.int .i64 (-1)))⟩])
            .ret)
            .skip)))
        (.region [⟨some 74, .none, true, 3, .move (.tmp 8)⟩,
          ⟨some 75, .none, true, 3, .move (.tmp 11)⟩,
          ⟨some 76, .none, true, 3, .binOp .add 3 (.tmp 75) (.const (.int .i64 1)) 3⟩,
          ⟨some 77, .none, true, 3, .binOp .add 3 (.tmp 74) (.tmp 76) 3⟩,
          ⟨some 8, .none, true, 3, .assign (.tmp 77)⟩]))))
        .skip)))
    (.seq
      (.seq
        (.region [⟨some 78, .none, true, 9, .move (.tmp 0)⟩,
          ⟨some 79, .none, true, 3, .move (.tmp 8)⟩,
          ⟨some 80, .none, true, 3, .binOp .add 3 (.tmp 79) (.const (.int .i64 1)) 3⟩,
          ⟨some 81, .none, true, 5, .index 9 (.tmp 78) (.tmp 80)⟩,
          ⟨some 82, .none, true, 5, .move (.tmp 7)⟩,
          ⟨some 83, .none, true, 4, .binOp .eql 5 (.tmp 81) (.tmp 82) 5⟩,
          ⟨some 84, .none, true, 4, .move (.tmp 83)⟩,
          ⟨some 85, .some 84 true, true, 9, .move (.tmp 0)⟩,
          ⟨some 86, .some 84 true, true, 3, .move (.tmp 8)⟩,
          ⟨some 87, .some 84 true, true, 3, .move (.tmp 8)⟩,
          ⟨some 88, .some 84 true, true, 3, .move (.tmp 5)⟩,
          ⟨some 89, .some 84 true, true, 3, .binOp .add 3 (.tmp 87) (.tmp 88) 3⟩,
          ⟨some 90, .some 84 true, true, 9, .slice 9 (.tmp 85) (some (.tmp 86)) (some (.tmp 89)) none⟩,
          ⟨some 91, .some 84 true, true, 9, .move (.tmp 1)⟩,
          ⟨some 92, .some 84 true, true, 4, .binOp .eql 9 (.tmp 90) (.tmp 91) 9⟩,
          ⟨some 93, .none, true, 4, .pick (.tmp 84) (.tmp 92) (.const (.bool false))⟩])
      (.keep [0, 1, 5, 6, 7, 8, 9, 10, 93]
      (.cond (.tmp 93)
        (.seq
          (.region [⟨some 94, .none, true, 3, .move (.tmp 8)⟩,
            ⟨some 4, .none, true, 3, .assign (.tmp 94)⟩])
        .ret)
        .skip)))
    (.seq
      (.region [⟨some 95, .none, true, 3, .move (.tmp 8)⟩,
        ⟨some 96, .none, true, 3, .binOp .add 3 (.tmp 95) (.const (.int .i64 1)) 3⟩,
        ⟨some 8, .none, true, 3, .assign (.tmp 96)⟩])
    (.keep [0, 1, 5, 6, 7, 8, 9, 10]
    (.seq
      (.region [⟨some 97, .none, true, 3, .move (.tmp 10)⟩,
        ⟨some 98, .none, true, 3, .binOp .add 3 (.tmp 97) (.const (.int .i64 1)) 3⟩,
        ⟨some 10, .none, true, 3, .assign (.tmp 98)⟩])
    (.keep [0, 1, 5, 6, 7, 8, 9, 10]
    (.seq
      (.region [⟨some 99, .none, true, 3, .move (.tmp 5)⟩,
        ⟨some 100, .none, true, 3, .load 3 (.global 3)⟩,
        ⟨some 101, .none, true, 4, .binOp .leq 3 (.tmp 99) (.tmp 100) 3⟩,
        ⟨some 102, .none, true, 4, .move (.tmp 101)⟩,
        ⟨some 103, .some 102 true, true, 3, .move (.tmp 10)⟩,
        ⟨some 104, .some 102 true, true, 3, .move (.tmp 8)⟩,
        ⟨some 105, .some 102 true, true, 3, .call { callee := .value (.func 111), args := #[.tmp 104], argTypes := #[3] }⟩,
        ⟨some 106, .some 102 true, true, 4, .binOp .gtr 3 (.tmp 103) (.tmp 105) 3⟩,
        ⟨some 107, .none, true, 4, .pick (.tmp 102) (.tmp 106) (.const (.bool false))⟩])
    (.keep [0, 1, 5, 6, 7, 8, 9, 10, 107]
    (.cond (.tmp 107)
      (.seq
        (.region [⟨some 108, .none, true, 9, .move (.tmp 0)⟩,
          ⟨some 109, .none, true, 3, .move (.tmp 8)⟩,
          ⟨some 110, .none, true, 9, .slice 9 (.tmp 108) (some (.tmp 109)) none none⟩,
          ⟨some 111, .none, true, 9, .move (.tmp 1)⟩,
          ⟨some 112, .none, true, 3, .call { callee := .value (.func 110), args := #[.tmp 110, .tmp 111], argTypes := #[9, 9] }⟩,
          ⟨some 12, .none, true, 3, .assign (.tmp 112)⟩])
      (.keep [8, 12]
      (.seq
        (.seq
          (.region [⟨some 113, .none, true, 3, .move (.tmp 12)⟩,
            ⟨some 114, .none, true, 4, .binOp .geq 3 (.tmp 113) (.const (.int .i64 0)) 3⟩])
        (.keep [8, 12, 114]
        (.cond (.tmp 114)
          (.seq
            (.region [⟨some 115, .none, true, 3, .move (.tmp 12)⟩,
              ⟨some 116, .none, true, 3, .move (.tmp 8)⟩,
              ⟨some 117, .none, true, 3, .binOp .add 3 (.tmp 115) (.tmp 116) 3⟩,
              ⟨some 4, .none, true, 3, .assign (.tmp 117)⟩])
          .ret)
          .skip)))
      (.seq
        (.region [⟨some 4, .none, true, 3, .assign (.const (.int .i64 (-1)))⟩])
      .ret))))
      (.seq
        (.region [⟨some 118, .none, true, 3, .move (.tmp 5)⟩,
          ⟨some 119, .none, true, 3, .load 3 (.global 3)⟩,
          ⟨some 120, .none, true, 4, .binOp .gtr 3 (.tmp 118) (.tmp 119) 3⟩,
          ⟨some 121, .none, true, 4, .move (.tmp 120)⟩,
          ⟨some 122, .some 121 true, true, 3, .move (.tmp 10)⟩,
          ⟨some 123, .some 121 true, true, 3, .move (.tmp 8)⟩,
          ⟨some 124, .some 121 true, true, 3, .binOp .shr 3 (.tmp 123) (.const (.int .u64 4)) 85⟩,
          ⟨some 125, .some 121 true, true, 3, .binOp .add 3 (.const (.int .i64 4)) (.tmp 124) 3⟩,
          ⟨some 126, .some 121 true, true, 4, .binOp .geq 3 (.tmp 122) (.tmp 125) 3⟩,
          ⟨some 127, .none, true, 4, .pick (.tmp 121) (.tmp 126) (.const (.bool false))⟩,
          ⟨some 128, .none, true, 4, .move (.tmp 127)⟩,
          ⟨some 129, .some 128 true, true, 3, .move (.tmp 8)⟩,
          ⟨some 130, .some 128 true, true, 3, .move (.tmp 9)⟩,
          ⟨some 131, .some 128 true, true, 4, .binOp .lss 3 (.tmp 129) (.tmp 130) 3⟩,
          ⟨some 132, .none, true, 4, .pick (.tmp 128) (.tmp 131) (.const (.bool false))⟩])
      (.keep [0, 1, 5, 6, 7, 8, 9, 10, 132]
      (.cond (.tmp 132)
        (.seq
          (.region [⟨some 133, .none, true, 9, .move (.tmp 0)⟩,
            ⟨some 134, .none, true, 3, .move (.tmp 8)⟩,
            ⟨some 135, .none, true, 9, .slice 9 (.tmp 133) (some (.tmp 134)) none none⟩,
            ⟨some 136, .none, true, 9, .move (.tmp 1)⟩,
            ⟨some 137, .none, true, 3, .call { callee := .value (.func 112), args := #[.tmp 135, .tmp 136], argTypes := #[9, 9] }⟩,
            ⟨some 13, .none, true, 3, .assign (.tmp 137)⟩])
        (.keep [8, 13]
        (.seq
          (.seq
            (.region [⟨some 138, .none, true, 3, .move (.tmp 13)⟩,
              ⟨some 139, .none, true, 4, .binOp .lss 3 (.tmp 138) (.const (.int .i64 0)) 3⟩])
          (.keep [8, 13, 139]
          (.cond (.tmp 139)
            (.seq
              (.region [⟨some 4, .none, true, 3, .assign (.const (.int .i64 (-1)))⟩])
            .ret)
            .skip)))
        (.seq
          (.region [⟨some 140, .none, true, 3, .move (.tmp 8)⟩,
            ⟨some 141, .none, true, 3, .move (.tmp 13)⟩,
            ⟨some 142, .none, true, 3, .binOp .add 3 (.tmp 140) (.tmp 141) 3⟩,
            ⟨some 4, .none, true, 3, .assign (.tmp 142)⟩])
        .ret))))
        .skip))))))))))))))
def rc_internal_stringslite_Index : RCode :=
  (.seq
    (.region [⟨some 4, .none, true, 3, .assign (.const (.int .i64 0))⟩])
  (.keep [0, 1]
  (.seq
    (.region [⟨some 14, .none, true, 9, .move (.tmp 1)⟩,
      ⟨some 15, .none, true, 3, .call { callee := .builtin .len, args := #[.tmp 14], argTypes := #[9] }⟩,
      ⟨some 5, .none, true, 3, .assign (.tmp 15)⟩])
  (.keep [0, 1, 5]
  (.seq
    (.block 0
      (.seq
        (.region [⟨some 17, .none, true, 3, .move (.tmp 5)⟩,
          ⟨some 18, .none, true, 4, .binOp .eql 3 (.tmp 17) (.const (.int .i64 0)) 3⟩,
          ⟨some 19, .none, true, 4, .move (.tmp 18)⟩,
          ⟨some 20, .some 19 false, true, 9, .move (.tmp 1)⟩,
          ⟨some 21, .some 19 false, true, 9, .move (.tmp 0)⟩,
          ⟨some 22, .some 19 false, true, 4, .binOp .eql 9 (.tmp 20) (.tmp 21) 9⟩,
          ⟨some 23, .none, true, 4, .pick (.tmp 19) (.const (.bool true)) (.tmp 22)⟩,
          ⟨some 16, .none, true, 4, .assign (.tmp 23)⟩])
      (.keep [0, 1, 5, 16]
      (.cond (.tmp 16)
        (.seq
          (.region [⟨some 4, .none, true, 3, .assign (.const (.int .i64 0))⟩])
        .ret)
        (.seq
          (.region [⟨some 25, .none, true, 3, .move (.tmp 5)⟩,
            ⟨some 26, .none, true, 4, .binOp .eql 3 (.tmp 25) (.const (.int .i64 1)) 3⟩,
            ⟨some 24, .none, true, 4, .assign (.tmp 26)⟩])
        (.keep [0, 1, 5, 24]
        (.cond (.tmp 24)
          (.seq
            (.region [⟨some 27, .none, true, 9, .move (.tmp 0)⟩,
              ⟨some 28, .none, true, 9, .move (.tmp 1)⟩,
              ⟨some 29, .none, true, 5, .index 9 (.tmp 28) (.const (.int .i64 0))⟩,
              ⟨some 30, .none, true, 3, .call { callee := .value (.func 109), args := #[.tmp 27, .tmp 29], argTypes := #[9, 5] }⟩,
              ⟨some 4, .none, true, 3, .assign (.tmp 30)⟩])
          .ret)
          (.seq
            (.region [⟨some 32, .none, true, 3, .move (.tmp 5)⟩,
              ⟨some 33, .none, true, 9, .move (.tmp 0)⟩,
              ⟨some 34, .none, true, 3, .call { callee := .builtin .len, args := #[.tmp 33], argTypes := #[9] }⟩,
              ⟨some 35, .none, true, 4, .binOp .geq 3 (.tmp 32) (.tmp 34) 3⟩,
              ⟨some 31, .none, true, 4, .assign (.tmp 35)⟩])
          (.keep [0, 1, 5, 31]
          (.cond (.tmp 31)
            (.seq
              (.region [⟨some 4, .none, true, 3, .assign (.const (.int .i64 (-1)))⟩])
            .ret)
            (.seq
              (.region [⟨some 37, .none, true, 3, .move (.tmp 5)⟩,
                ⟨some 38, .none, true, 3, .load 3 (.global 3)⟩,
                ⟨some 39, .none, true, 4, .binOp .leq 3 (.tmp 37) (.tmp 38) 3⟩,
                ⟨some 40, .none, true, 4, .move (.tmp 39)⟩,
                ⟨some 41, .some 40 true, true, 9, .move (.tmp 0)⟩,
                ⟨some 42, .some 40 true, true, 3, .call { callee := .builtin .len, args := #[.tmp 41], argTypes := #[9] }⟩,
                ⟨some 43, .some 40 true, true, 4, .binOp .leq 3 (.tmp 42) (.const (.int .i64 64)) 3⟩,
                ⟨some 44, .none, true, 4, .pick (.tmp 40) (.tmp 43) (.const (.bool false))⟩,
                ⟨some 36, .none, true, 4, .assign (.tmp 44)⟩])
            (.keep [0, 1, 5, 36]
            (.cond (.tmp 36)
              (.seq
                (.region [⟨some 45, .none, true, 9, .move (.tmp 0)⟩,
                  ⟨some 46, .none, true, 9, .move (.tmp 1)⟩,
                  ⟨some 47, .none, true, 3, .call { callee := .value (.func 110), args := #[.tmp 45, .tmp 46], argTypes := #[9, 9] }⟩,
                  ⟨some 4, .none, true, 3, .assign (.tmp 47)⟩])
              .ret)
              .skip)))))))))))))
  (.keep [0, 1, 5]
  (.seq
    (.region [⟨some 48, .none, true, 9, .move (.tmp 1)⟩,
      ⟨some 49, .none, true, 5, .index 9 (.tmp 48) (.const (.int .i64 0))⟩,
      ⟨some 6, .none, true, 5, .assign (.tmp 49)⟩])
  (.keep [0, 1, 5, 6]
  (.seq
    (.region [⟨some 50, .none, true, 9, .move (.tmp 1)⟩,
      ⟨some 51, .none, true, 5, .index 9 (.tmp 50) (.const (.int .i64 1))⟩,
      ⟨some 7, .none, true, 5, .assign (.tmp 51)⟩])
  (.keep [0, 1, 5, 6, 7]
  (.seq
    (.region [⟨some 8, .none, true, 3, .assign (.const (.int .i64 0))⟩])
  (.keep [0, 1, 5, 6, 7, 8]
  (.seq
    (.region [⟨some 52, .none, true, 9, .move (.tmp 0)⟩,
      ⟨some 53, .none, true, 3, .call { callee := .builtin .len, args := #[.tmp 52], argTypes := #[9] }⟩,
      ⟨some 54, .none, true, 3, .move (.tmp 5)⟩,
      ⟨some 55, .none, true, 3, .binOp .sub 3 (.tmp 53) (.tmp 54) 3⟩,
      ⟨some 56, .none, true, 3, .binOp .add 3 (.tmp 55) (.const (.int .i64 1)) 3⟩,
      ⟨some 9, .none, true, 3, .assign (.tmp 56)⟩])
  (.keep [0, 1, 5, 6, 7, 8, 9]
  (.seq
    (.region [⟨some 10, .none, true, 3, .assign (.const (.int .i64 0))⟩])
  (.keep [0, 1, 5, 6, 7, 8, 9, 10]
  (.seq
    (.block 1
      (.loop [0, 1, 5, 6, 7, 8, 9, 10] rc_internal_stringslite_Indexl0))
  (.keep []
  (.seq
    (.region [⟨some 4, .none, true, 3, .assign (.const (.int .i64 (-1)))⟩])
  .ret)))))))))))))))))))
theorem t_internal_stringslite_Index : FnT Tryd.prog f_internal_stringslite_Index rc_internal_stringslite_Index [.tmp 4] 2 := ⟨⟨[], Tryd.f99, _, Tryd.func99, rfl, by kernel_rfl, by kernel_rfl, by kernel_rfl, rfl, by decide⟩, by kernel_rfl⟩
/-- internal/strconv.ParseUint -/
abbrev f_internal_strconv_ParseUint : FuncId := 100
def rc_internal_strconv_ParseUintl0 : RCode :=
  (.seq
    (.region [⟨some 102, .none, true, 0, .binOp .lss 3 (.tmp 101) (.tmp 100) 3⟩])
  (.keep [1, 8, 9, 10, 11, 12, 13, 99, 100, 101, 102]
  (.seq
    (.cond (.tmp 102)
      .skip
      (.exit 3))
  (.keep [1, 8, 9, 10, 11, 12, 13, 99, 100, 101]
  (.seq
    (.block 4
      (.seq
        (.region [⟨some 103, .none, true, 0, .indexAddr 93 (.tmp 99) (.tmp 101)⟩,
          ⟨some 104, .none, true, 5, .load 5 (.tmp 103)⟩,
          ⟨some 15, .none, true, 5, .assign (.tmp 104)⟩])
      (.keep [1, 8, 9, 10, 11, 12, 13, 15, 99, 100, 101]
      (.seq
        (.region [⟨some 16, .none, true, 5, .assign (.const (.int .u8 0))⟩])
      (.keep [1, 8, 9, 10, 11, 12, 13, 15, 99, 100, 101]
      (.seq
        (.block 5
          (.seq
            (.region [⟨some 107, .none, true, 5, .move (.tmp 15)⟩,
              ⟨some 108, .none, true, 4, .binOp .eql 5 (.tmp 107) (.const (.int .u8 95)) 5⟩,
              ⟨some 109, .none, true, 4, .move (.tmp 108)⟩,
              ⟨some 110, .some 109 true, true, 4, .move (.tmp 8)⟩,
              ⟨some 111, .none, true, 4, .pick (.tmp 109) (.tmp 110) (.const (.bool false))⟩,
              ⟨some 106, .none, true, 4, .assign (.tmp 111)⟩])
          (.keep [1, 8, 9, 10, 11, 12, 13, 15, 99, 100, 101, 106]
          (.cond (.tmp 106)
            (.seq
              (.region [⟨some 12, .none, true, 4, .assign (.const (.bool true))⟩])
            (.exit 4))
            (.seq
              (.region [⟨some 113, .none, true, 5, .move (.tmp 15)⟩,
                ⟨some 114, .none, true, 4, .binOp .leq 5 (.const (.int .u8 48)) (.tmp 113) 5⟩,
                ⟨some 115, .none, true, 4, .move (.tmp 114)⟩,
                ⟨some 116, .some 115 true, true, 5, .move (.tmp 15)⟩,
                ⟨some 117, .some 115 true, true, 4, .binOp .leq 5 (.tmp 116) (.const (.int .u8 57)) 5⟩,
                ⟨some 118, .none, true, 4, .pick (.tmp 115) (.tmp 117) (.const (.bool false))⟩,
                ⟨some 112, .none, true, 4, .assign (.tmp 118)⟩])
            (.keep [1, 8, 9, 10, 11, 12, 13, 15, 99, 100, 101, 112]
            (.cond (.tmp 112)
              (.region [⟨some 119, .none, true, 5, .move (.tmp 15)⟩,
                ⟨some 120, .none, true, 5, .binOp .sub 5 (.tmp 119) (.const (.int .u8 48)) 5⟩,
                ⟨some 16, .none, true, 5, .assign (.tmp 120)⟩])
              (.seq
                (.region [⟨some 122, .none, true, 5, .move (.tmp 15)⟩,
                  ⟨some 123, .none, true, 5, .call { callee := .value (.func 113), args := #[.tmp 122], argTypes := #[5] }⟩,
                  ⟨some 124, .none, true, 4, .binOp .leq 5 (.const (.int .u8 97)) (.tmp 123) 5⟩,
                  ⟨some 125, .none, true, 4, .move (.tmp 124)⟩,
                  ⟨some 126, .some 125 true, true, 5, .move (.tmp 15)⟩,
                  ⟨some 127, .some 125 true, true, 5, .call { callee := .value (.func 113), args := #[.tmp 126], argTypes := #[5] }⟩,
                  ⟨some 128, .some 125 true, true, 4, .binOp .leq 5 (.tmp 127) (.const (.int .u8 122)) 5⟩,
                  ⟨some 129, .none, true, 4, .pick (.tmp 125) (.tmp 128) (.const (.bool false))⟩,
                  ⟨some 121, .none, true, 4, .assign (.tmp 129)⟩])
              (.keep [1, 8, 9, 10, 11, 12, 13, 15, 99, 100, 101, 121]
              (.cond (.tmp 121)
                (.region [⟨some 130, .none, true, 5, .move (.tmp 15)⟩,
                  ⟨some 131, .none, true, 5, .call { callee := .value (.func 113), args := #[.tmp 130], argTypes := #[5] }⟩,
                  ⟨some 132, .none, true, 5, .binOp .sub 5 (.tmp 131) (.const (.int .u8 97)) 5⟩,
                  ⟨some 133, .none, true, 5, .binOp .add 5 (.tmp 132) (.const (.int .u8 10)) 5⟩,
                  ⟨some 16, .none, true, 5, .assign (.tmp 133)⟩])
                (.seq
                  (.region [⟨some 105, .none, true, 88, .makeInterface 110 (.const (.int .i64 2))⟩,
                    ⟨some 6, .none, true, 27, .assign (.const (.int .u64 0))⟩,
                    ⟨some 7, .none, true, 88, .assign (.tmp 105)⟩])
                .ret)))))))))))
      (.keep [1, 8, 9, 10, 11, 12, 13, 16, 99, 100, 101]
      (.seq
        (.seq
          (.region [⟨some 134, .none, true, 5, .move (.tmp 16)⟩,
            ⟨some 135, .none, true, 3, .move (.tmp 1)⟩,
            ⟨some 136, .none, true, 5, .convert 3 5 (.tmp 135)⟩,
            ⟨some 137, .none, true, 4, .binOp .geq 5 (.tmp 134) (.tmp 136) 5⟩])
        (.keep [1, 8, 9, 10, 11, 12, 13, 16, 99, 100, 101, 137]
        (.cond (.tmp 137)
          (.seq
            (.region [⟨some 138, .none, true, 88, .makeInterface 110 (.const (.int .i64 2))⟩,
              ⟨some 6, .none, true, 27, .assign (.const (.int .u64 0))⟩,
              ⟨some 7, .none, true, 88, .assign (.tmp 138)⟩])
          .ret)
          .skip)))
      (.seq
        (.seq
          (.region [⟨some 139, .none, true, 27, .move (.tmp 13)⟩,
            ⟨some 140, .none, true, 27, .move (.tmp 10)⟩,
            ⟨some 141, .none, true, 4, .binOp .geq 27 (.tmp 139) (.tmp 140) 27⟩])
        (.keep [1, 8, 9, 10, 11, 12, 13, 16, 99, 100, 101, 141]
        (.cond (.tmp 141)
          (.seq
            (.region [⟨some 142, .none, true, 27, .move (.tmp 11)⟩,
              ⟨some 143, .none, true, 88, .makeInterface 110 (.const (.int .i64 1))⟩,
              ⟨some 6, .none, true, 27, .assign (.tmp 142)⟩,
              ⟨some 7, .none, true, 88, .assign (.tmp 143)⟩])
          .ret)
          .skip)))
      (.seq
        (.region [⟨some 144, .none, true, 27, .move (.tmp 13)⟩,
          ⟨some 145, .none, true, 3, .move (.tmp 1)⟩,
          ⟨some 146, .none, true, 27, .convert 3 27 (.tmp 145)⟩,
          ⟨some 147, .none, true, 27, .binOp .mul 27 (.tmp 144) (.tmp 146) 27⟩,
          ⟨some 13, .none, true, 27, .assign (.tmp 147)⟩])
      (.keep [1, 8, 9, 10, 11, 12, 13, 16, 99, 100, 101]
      (.seq
        (.region [⟨some 148, .none, true, 27, .move (.tmp 13)⟩,
          ⟨some 149, .none, true, 5, .move (.tmp 16)⟩,
          ⟨some 150, .none, true, 27, .convert 5 27 (.tmp 149)⟩,
          ⟨some 151, .none, true, 27, .binOp .add 27 (.tmp 148) (.tmp 150) 27⟩,
          ⟨some 17, .none, true, 27, .assign (.tmp 151)⟩])
      (.keep [1, 8, 9, 10, 11, 12, 13, 17, 99, 100, 101]
      (.seq
        (.seq
          (.region [⟨some 152, .none, true, 27, .move (.tmp 17)⟩,
            ⟨some 153, .none, true, 27, .move (.tmp 13)⟩,
            ⟨some 154, .none, true, 4, .binOp .lss 27 (.tmp 152) (.tmp 153) 27⟩,
            ⟨some 155, .none, true, 4, .move (.tmp 154)⟩,
            ⟨some 156, .some 155 false, true, 27, .move (.tmp 17)⟩,
            ⟨some 157, .some 155 false, true, 27, .move (.tmp 11)⟩,
            ⟨some 158, .some 155 false, true, 4, .binOp .gtr 27 (.tmp 156) (.tmp 157) 27⟩,
            ⟨some 159, .none, true, 4, .pick (.tmp 155) (.const (.bool true)) (.tmp 158)⟩])
        (.keep [1, 8, 9, 10, 11, 12, 17, 99, 100, 101, 159]
        (.cond (.tmp 159)
          (.seq
            (.region [⟨some 160, .none, true, 27, .move (.tmp 11)⟩,
              ⟨some 161, .none, true, 88, .makeInterface 110 (.const (.int .i64 1))⟩,
              ⟨some 6, .none, true, 27, .assign (.tmp 160)⟩,
              ⟨some 7, .none, true, 88, .assign (.tmp 161)⟩])
          .ret)
          .skip)))
      (.region [⟨some 162, .none, true, 27, .move (.tmp 17)⟩,
        ⟨some 13, .none, true, 27, .assign (.tmp 162)⟩])))))))))))))))
  (.keep [1, 8, 9, 10, 11, 12, 13, 99, 100, 101]
  (.region [⟨some 163, .none, true, 3, .binOp .add 3 (.tmp 101) (.const (.int .i64 1)) 3⟩,
    ⟨some 101, .none, true, 3, .move (.tmp 163)⟩])))))))
def rc_internal_strconv_ParseUint : RCode :=
  (.seq
    (.region [⟨some 6, .none, true, 27, .assign (.const (.int .u64 0))⟩,
      ⟨some 7, .none, true, 88, .assign (.const .nilIface)⟩])
  (.keep [0, 1, 2]
  (.seq
    (.seq
      (.region [⟨some 18, .none, true, 9, .move (.tmp 0)⟩,
        ⟨some 19, .none, true, 4, .binOp .eql 9 (.tmp 18) (.const (.string { data := #[] })) 9⟩])
    (.keep [0, 1, 2, 19]
    (.cond (.tmp 19)
      (.seq
        (.region [⟨some 20, .none, true, 88, .makeInterface 110 (.const (.int .i64 2))⟩,
          ⟨some 6, .none, true, 27, .assign (.const (.int .u64 0))⟩,
          ⟨some 7, .none, true, 88, .assign (.tmp 20)⟩])
      .ret)
      .skip)))
  (.seq
    (.region [⟨some 21, .none, true, 3, .move (.tmp 1)⟩,
      ⟨some 22, .none, true, 4, .binOp .eql 3 (.tmp 21) (.const (.int .i64 0)) 3⟩,
      ⟨some 8, .none, true, 4, .assign (.tmp 22)⟩])
  (.keep [0, 1, 2, 8]
  (.seq
    (.region [⟨some 23, .none, true, 9, .move (.tmp 0)⟩,
      ⟨some 9, .none, true, 9, .assign (.tmp 23)⟩])
  (.keep [0, 1, 2, 8, 9]
  (.seq
    (.block 0
      (.seq
        (.region [⟨some 26, .none, true, 3, .move (.tmp 1)⟩,
          ⟨some 27, .none, true, 4, .binOp .leq 3 (.const (.int .i64 2)) (.tmp 26) 3⟩,
          ⟨some 28, .none, true, 4, .move (.tmp 27)⟩,
          ⟨some 29, .some 28 true, true, 3, .move (.tmp 1)⟩,
          ⟨some 30, .some 28 true, true, 4, .binOp .leq 3 (.tmp 29) (.const (.int .i64 36)) 3⟩,
          ⟨some 31, .none, true, 4, .pick (.tmp 28) (.tmp 30) (.const (.bool false))⟩,
          ⟨some 25, .none, true, 4, .assign (.tmp 31)⟩])
      (.keep [0, 1, 2, 8, 9, 25]
      (.cond (.tmp 25)
        .skip
        (.seq
          (.region [⟨some 33, .none, true, 3, .move (.tmp 1)⟩,
            ⟨some 34, .none, true, 4, .binOp .eql 3 (.tmp 33) (.const (.int .i64 0)) 3⟩,
            ⟨some 32, .none, true, 4, .assign (.tmp 34)⟩])
        (.keep [0, 2, 8, 9, 32]
        (.cond (.tmp 32)
          (.seq
            (.region [⟨some 1, .none, true, 3, .assign (.const (.int .i64 10))⟩])
          (.keep [0, 1, 2, 8, 9]
          (.seq
            (.region [⟨some 35, .none, true, 9, .move (.tmp 0)⟩,
              ⟨some 36, .none, true, 5, .index 9 (.tmp 35) (.const (.int .i64 0))⟩,
              ⟨some 37, .none, true, 4, .binOp .eql 5 (.tmp 36) (.const (.int .u8 48)) 5⟩])
          (.keep [0, 1, 2, 8, 9, 37]
          (.cond (.tmp 37)
            (.block 1
              (.seq
                (.region [⟨some 41, .none, true, 9, .move (.tmp 0)⟩,
                  ⟨some 42, .none, true, 3, .call { callee := .builtin .len, args := #[.tmp 41], argTypes := #[9] }⟩,
                  ⟨some 43, .none, true, 4, .binOp .geq 3 (.tmp 42) (.const (.int .i64 3)) 3⟩,
                  ⟨some 44, .none, true, 4, .move (.tmp 43)⟩,
                  ⟨some 45, .some 44 true, true, 9, .move (.tmp 0)⟩,
                  ⟨some 46, .some 44 true, true, 5, .index 9 (.tmp 45) (.const (.int .i64 1))⟩,
                  ⟨some 47, .some 44 true, true, 5, .call { callee := .value (.func 113), args := #[.tmp 46], argTypes := #[5] }⟩,
                  ⟨some 48, .some 44 true, true, 4, .binOp .eql 5 (.tmp 47) (.const (.int .u8 98)) 5⟩,
                  ⟨some 49, .none, true, 4, .pick (.tmp 44) (.tmp 48) (.const (.bool false))⟩,
                  ⟨some 40, .none, true, 4, .assign (.tmp 49)⟩])
              (.keep [0, 2, 8, 9, 40]
              (.cond (.tmp 40)
                (.seq
                  (.region [⟨some 1, .none, true, 3, .assign (.const (.int .i64 2))⟩])
                (.keep [0, 1, 2, 8, 9]
                (.region [⟨some 50, .none, true, 9, .move (.tmp 0)⟩,
                  ⟨some 51, .none, true, 9, .slice 9 (.tmp 50) (some (.const (.int .i64 2))) none none⟩,
                  ⟨some 0, .none, true, 9, .assign (.tmp 51)⟩])))
                (.seq
                  (.region [⟨some 53, .none, true, 9, .move (.tmp 0)⟩,
                    ⟨some 54, .none, true, 3, .call { callee := .builtin .len, args := #[.tmp 53], argTypes := #[9] }⟩,
                    ⟨some 55, .none, true, 4, .binOp .geq 3 (.tmp 54) (.const (.int .i64 3)) 3⟩,
                    ⟨some 56, .none, true, 4, .move (.tmp 55)⟩,
                    ⟨some 57, .some 56 true, true, 9, .move (.tmp 0)⟩,
                    ⟨some 58, .some 56 true, true, 5, .index 9 (.tmp 57) (.const (.int .i64 1))⟩,
                    ⟨some 59, .some 56 true, true, 5, .call { callee := .value (.func 113), args := #[.tmp 58], argTypes := #[5] }⟩,
                    ⟨some 60, .some 56 true, true, 4, .binOp .eql 5 (.tmp 59) (.const (.int .u8 111)) 5⟩,
                    ⟨some 61, .none, true, 4, .pick (.tmp 56) (.tmp 60) (.const (.bool false))⟩,
                    ⟨some 52, .none, true, 4, .assign (.tmp 61)⟩])
                (.keep [0, 2, 8, 9, 52]
                (.cond (.tmp 52)
                  (.seq
                    (.region [⟨some 1, .none, true, 3, .assign (.const (.int .i64 8))⟩])
                  (.keep [0, 1, 2, 8, 9]
                  (.region [⟨some 62, .none, true, 9, .move (.tmp 0)⟩,
                    ⟨some 63, .none, true, 9, .slice 9 (.tmp 62) (some (.const (.int .i64 2))) none none⟩,
                    ⟨some 0, .none, true, 9, .assign (.tmp 63)⟩])))
                  (.seq
                    (.region [⟨some 65, .none, true, 9, .move (.tmp 0)⟩,
                      ⟨some 66, .none, true, 3, .call { callee := .builtin .len, args := #[.tmp 65], argTypes := #[9] }⟩,
                      ⟨some 67, .none, true, 4, .binOp .geq 3 (.tmp 66) (.const (.int .i64 3)) 3⟩,
                      ⟨some 68, .none, true, 4, .move (.tmp 67)⟩,
                      ⟨some 69, .some 68 true, true, 9, .move (.tmp 0)⟩,
                      ⟨some 70, .some 68 true, true, 5, .index 9 (.tmp 69) (.const (.int .i64 1))⟩,
                      ⟨some 71, .some 68 true, true, 5, .call { callee := .value (.func 113), args := #[.tmp 70], argTypes := #[5] }⟩,
                      ⟨some 72, .some 68 true, true, 4, .binOp .eql 5 (.tmp 71) (.const (.int .u8 120)) 5⟩,
                      ⟨some 73, .none, true, 4, .pick (.tmp 68) (.tmp 72) (.const (.bool false))⟩,
                      ⟨some 64, .none, true, 4, .assign (.tmp 73)⟩])
                  (.keep [0, 2, 8, 9, 64]
                  (.cond (.tmp 64)
                    (.seq
                      (.region [⟨some 1, .none, true, 3, .assign (.const (.int .i64 16))⟩])
                    (.keep [0, 1, 2, 8, 9]
                    (.region [⟨some 74, .none, true, 9, .move (.tmp 0)⟩,
                      ⟨some 75, .none, true, 9, .slice 9 (.tmp 74) (some (.const (.int .i64 2))) none none⟩,
                      ⟨some 0, .none, true, 9, .assign (.tmp 75)⟩])))
                    (.seq
                      (.region [⟨some 1, .none, true, 3, .assign (.const (.int .i64 8))⟩])
                    (.keep [0, 1, 2, 8, 9]
                    (.region [⟨some 38, .none, true, 9, .move (.tmp 0)⟩,
                      ⟨some 39, .none, true, 9, .slice 9 (.tmp 38) (some (.const (.int .i64 1))) none none⟩,
                      ⟨some 0, .none, true, 9, .assign (.tmp 39)⟩])))))))))))))
            .skip)))))
          (.seq
            (.region [⟨some 24, .none, true, 88, .makeInterface 110 (.const (.int .i64 3))⟩,
              ⟨some 6, .none, true, 27, .assign (.const (.int .u64 0))⟩,
              ⟨some 7, .none, true, 88, .assign (.tmp 24)⟩])
          .ret))))))))
  (.keep [0, 1, 2, 8, 9]
  (.seq
    (.seq
      (.region [⟨some 76, .none, true, 3, .move (.tmp 2)⟩,
        ⟨some 77, .none, true, 4, .binOp .eql 3 (.tmp 76) (.const (.int .i64 0)) 3⟩])
    (.keep [0, 1, 2, 8, 9, 77]
    (.cond (.tmp 77)
      (.region [⟨some 2, .none, true, 3, .assign (.const (.int .i64 64))⟩])
      (.seq
        (.region [⟨some 78, .none, true, 3, .move (.tmp 2)⟩,
          ⟨some 79, .none, true, 4, .binOp .lss 3 (.tmp 78) (.const (.int .i64 0)) 3⟩,
          ⟨some 80, .none, true, 4, .move (.tmp 79)⟩,
          ⟨some 81, .some 80 false, true, 3, .move (.tmp 2)⟩,
          ⟨some 82, .some 80 false, true, 4, .binOp .gtr 3 (.tmp 81) (.const (.int .i64 64)) 3⟩,
          ⟨some 83, .none, true, 4, .pick (.tmp 80) (.const (.bool true)) (.tmp 82)⟩])
      (.keep [0, 1, 2, 8, 9, 83]
      (.cond (.tmp 83)
        (.seq
          (.region [⟨some 84, .none, true, 88, .makeInterface 110 (.const (.int .i64 4))⟩,
            ⟨some 6, .none, true, 27, .assign (.const (.int .u64 0))⟩,
            ⟨some 7, .none, true, 88, .assign (.tmp 84)⟩])
        .ret)
        .skip))))))
  (.seq
    (.region [⟨some 10, .none, true, 27, .assign (.const (.int .u64 0))⟩])
  (.keep [0, 1, 2, 8, 9]
  (.seq
    (.seq
      (.region [⟨some 85, .none, true, 3, .move (.tmp 1)⟩])
    (.keep [0, 1, 2, 8, 9, 85]
    (.block 2
      (.seq
        (.region [⟨some 91, .none, true, 4, .binOp .eql 3 (.tmp 85) (.const (.int .i64 10)) 3⟩,
          ⟨some 90, .none, true, 4, .assign (.tmp 91)⟩])
      (.keep [0, 1, 2, 8, 9, 85, 90]
      (.cond (.tmp 90)
        (.region [⟨some 10, .none, true, 27, .assign (.const (.int .u64 1844674407370955162))⟩])
        (.seq
          (.region [⟨some 93, .none, true, 4, .binOp .eql 3 (.tmp 85) (.const (.int .i64 16)) 3⟩,
            ⟨some 92, .none, true, 4, .assign (.tmp 93)⟩])
        (.keep [0, 1, 2, 8, 9, 92]
        (.cond (.tmp 92)
          (.region [⟨some 10, .none, true, 27, .assign (.const (.int .u64 1152921504606846976))⟩])
          (.region [⟨some 86, .none, true, 3, .move (.tmp 1)⟩,
            ⟨some 87, .none, true, 27, .convert 3 27 (.tmp 86)⟩,
            ⟨some 88, .none, true, 27, .binOp .quo 27 (.const (.int .u64 18446744073709551615)) (.tmp 87) 27⟩,
            ⟨some 89, .none, true, 27, .binOp .add 27 (.tmp 88) (.const (.int .u64 1)) 27⟩,
            ⟨some 10, .none, true, 27, .assign (.tmp 89)⟩]))))))))))
  (.seq
    (.region [⟨some 94, .none, true, 3, .move (.tmp 2)⟩,
      ⟨some 95, .none, true, 85, .convert 3 85 (.tmp 94)⟩,
      ⟨some 96, .none, true, 27, .binOp .shl 27 (.const (.int .u64 1)) (.tmp 95) 85⟩,
      ⟨some 97, .none, true, 27, .binOp .sub 27 (.tmp 96) (.const (.int .u64 1)) 27⟩,
      ⟨some 11, .none, true, 27, .assign (.tmp 97)⟩])
  (.keep [0, 1, 8, 9, 10, 11]
  (.seq
    (.region [⟨some 12, .none, true, 4, .assign (.const (.bool false))⟩])
  (.keep [0, 1, 8, 9, 10, 11, 12]
  (.seq
    (.region [⟨some 13, .none, true, 27, .assign (.const (.int .u64 0))⟩])
  (.keep [0, 1, 8, 9, 10, 11, 12, 13]
  (.seq
    (.seq
      (.region [⟨some 98, .none, true, 9, .move (.tmp 0)⟩,
        ⟨some 99, .none, true, 93, .convert 9 93 (.tmp 98)⟩,
        ⟨some 100, .none, true, 3, .call { callee := .builtin .len, args := #[.tmp 99], argTypes := #[93] }⟩,
        ⟨some 101, .none, true, 3, .move (.const (.int .i64 0))⟩])
    (.keep [1, 8, 9, 10, 11, 12, 13, 99, 100, 101]
    (.block 3
      (.loop [1, 8, 9, 10, 11, 12, 13, 99, 100, 101] rc_internal_strconv_ParseUintl0))))
  (.seq
    (.seq
      (.region [⟨some 164, .none, true, 4, .move (.tmp 12)⟩,
        ⟨some 165, .none, true, 4, .move (.tmp 164)⟩,
        ⟨some 166, .some 165 true, true, 9, .move (.tmp 9)⟩,
        ⟨some 167, .some 165 true, true, 4, .call { callee := .value (.func 114), args := #[.tmp 166], argTypes := #[9] }⟩,
        ⟨some 168, .some 165 true, true, 4, .unOp .not 4 (.tmp 167)⟩,
        ⟨some 169, .none, true, 4, .pick (.tmp 165) (.tmp 168) (.const (.bool false))⟩])
    (.keep [13, 169]
    (.cond (.tmp 169)
      (.seq
        (.region [⟨some 170, .none, true, 88, .makeInterface 110 (.const (.int .i64 2))⟩,
          ⟨some 6, .none, true, 27, .assign (.const (.int .u64 0))⟩,
          ⟨some 7, .none, true, 88, .assign (.tmp 170)⟩])
      .ret)
      .skip)))
  (.seq
    (.region [⟨some 171, .none, true, 27, .move (.tmp 13)⟩,
      ⟨some 6, .none, true, 27, .assign (.tmp 171)⟩,
      ⟨some 7, .none, true, 88, .assign (.const .nilIface)⟩])
  .ret))))))))))))))))))))))
theorem t_internal_strconv_ParseUint : FnT Tryd.prog f_internal_strconv_ParseUint rc_internal_strconv_ParseUint [.tmp 6, .tmp 7] 3 := ⟨⟨[], Tryd.f100, _, Tryd.func100, rfl, by kernel_rfl, by kernel_rfl, by kernel_rfl, rfl, by decide⟩, by kernel_rfl⟩
/-- internal/stringslite.Clone -/
abbrev f_internal_stringslite_Clone : FuncId := 101
def rc_internal_stringslite_Clone : RCode :=
  (.seq
    (.region [⟨some 2, .none, true, 9, .assign (.const (.string { data := #[] }))⟩])
  (.keep [0]
  (.seq
    (.seq
      (.region [⟨some 4, .none, true, 9, .move (.tmp 0)⟩,
        ⟨some 5, .none, true, 3, .call { callee := .builtin .len, args := #[.tmp 4], argTypes := #[9] }⟩,
        ⟨some 6, .none, true, 4, .binOp .eql 3 (.tmp 5) (.const (.int .i64 0)) 3⟩])
    (.keep [0, 6]
    (.cond (.tmp 6)
      (.seq
        (.region [⟨some 2, .none, true, 9, .assign (.const (.string { data := #[] }))⟩])
      .ret)
      .skip)))
  (.seq
    (.region [⟨some 7, .none, true, 9, .move (.tmp 0)⟩,
      ⟨some 8, .none, true, 3, .call { callee := .builtin .len, args := #[.tmp 7], argTypes := #[9] }⟩,
      ⟨some 9, .none, true, 93, .makeSlice 93 (.tmp 8) (.tmp 8)⟩,
      ⟨some 3, .none, true, 93, .assign (.tmp 9)⟩])
  (.keep [0, 3]
  (.seq
    (.region [⟨some 10, .none, true, 93, .move (.tmp 3)⟩,
      ⟨some 11, .none, true, 9, .move (.tmp 0)⟩,
      ⟨some 12, .none, true, 3, .call { callee := .builtin .copy, args := #[.tmp 10, .tmp 11], argTypes := #[93, 9] }⟩])
  (.keep [3]
  (.seq
    (.region [⟨some 13, .none, true, 93, .move (.tmp 3)⟩,
      ⟨some 14, .none, true, 0, .indexAddr 93 (.tmp 13) (.const (.int .i64 0))⟩,
      ⟨some 15, .none, true, 93, .move (.tmp 3)⟩,
      ⟨some 16, .none, true, 3, .call { callee := .builtin .len, args := #[.tmp 15], argTypes := #[93] }⟩,
      ⟨some 17, .none, true, 9, .call { callee := .builtin .unsafeString, args := #[.tmp 14, .tmp 16], argTypes := #[107, 3] }⟩,
      ⟨some 2, .none, true, 9, .assign (.tmp 17)⟩])
  .ret))))))))
theorem t_internal_stringslite_Clone : FnT Tryd.prog f_internal_stringslite_Clone rc_internal_stringslite_Clone [.tmp 2] 1 := ⟨⟨[], Tryd.f101, _, Tryd.func101, rfl, by kernel_rfl, by kernel_rfl, by kernel_rfl, rfl, by decide⟩, by kernel_rfl⟩
/-- errors.New -/
abbrev f_errors_New : FuncId := 102
def rc_errors_New : RCode :=
  (.seq
    (.region [⟨some 2, .none, true, 88, .assign (.const .nilIface)⟩])
  (.keep [0]
  (.seq
    (.region [⟨some 3, .none, true, 9, .move (.tmp 0)⟩,
      ⟨some 4, .none, true, 143, .build 143 #[(0, .tmp 3)]⟩,
      ⟨some 5, .none, true, 141, .box 143 (.tmp 4)⟩,
      ⟨some 6, .none, true, 88, .makeInterface 141 (.tmp 5)⟩,
      ⟨some 2, .none, true, 88, .assign (.tmp 6)⟩])
  .ret)))
theorem t_errors_New : FnT Tryd.prog f_errors_New rc_errors_New [.tmp 2] 1 := ⟨⟨[], Tryd.f102, _, Tryd.func102, rfl, by kernel_rfl, by kernel_rfl, by kernel_rfl, rfl, by decide⟩, by kernel_rfl⟩
/-- internal/strconv.log10Pow2 -/
abbrev f_internal_strconv_log10Pow2 : FuncId := 103
def rc_internal_strconv_log10Pow2 : RCode :=
  (.seq
    (.region [⟨some 2, .none, true, 3, .assign (.const (.int .i64 0))⟩])
  (.keep [0]
  (.seq
    (.region [⟨some 3, .none, true, 3, .move (.tmp 0)⟩,
      ⟨some 4, .none, true, 3, .binOp .mul 3 (.tmp 3) (.const (.int .i64 78913)) 3⟩,
      ⟨some 5, .none, true, 3, .binOp .shr 3 (.tmp 4) (.const (.int .u64 18)) 85⟩,
      ⟨some 2, .none, true, 3, .assign (.tmp 5)⟩])
  .ret)))
theorem t_internal_strconv_log10Pow2 : FnT Tryd.prog f_internal_strconv_log10Pow2 rc_internal_strconv_log10Pow2 [.tmp 2] 1 := ⟨⟨[], Tryd.f103, _, Tryd.func103, rfl, by kernel_rfl, by kernel_rfl, by kernel_rfl, rfl, by decide⟩, by kernel_rfl⟩
/-- math/bits.Len64 -/
abbrev f_math_bits_Len64 : FuncId := 104
def rc_math_bits_Len64 : RCode :=
  (.seq
    (.region [⟨some 2, .none, true, 3, .assign (.const (.int .i64 0))⟩])
  (.keep [0, 2]
  (.seq
    (.seq
      (.region [⟨some 3, .none, true, 27, .move (.tmp 0)⟩,
        ⟨some 4, .none, true, 4, .binOp .geq 27 (.tmp 3) (.const (.int .u64 4294967296)) 27⟩])
    (.keep [0, 2, 4]
    (.cond (.tmp 4)
      (.seq
        (.region [⟨some 5, .none, true, 27, .move (.tmp 0)⟩,
          ⟨some 6, .none, true, 27, .binOp .shr 27 (.tmp 5) (.const (.int .u64 32)) 85⟩,
          ⟨some 0, .none, true, 27, .assign (.tmp 6)⟩])
      (.keep [0]
      (.region [⟨some 2, .none, true, 3, .assign (.const (.int .i64 32))⟩])))
      .skip)))
  (.seq
    (.seq
      (.region [⟨some 7, .none, true, 27, .move (.tmp 0)⟩,
        ⟨some 8, .none, true, 4, .binOp .geq 27 (.tmp 7) (.const (.int .u64 65536)) 27⟩])
    (.keep [0, 2, 8]
    (.cond (.tmp 8)
      (.seq
        (.region [⟨some 9, .none, true, 27, .move (.tmp 0)⟩,
          ⟨some 10, .none, true, 27, .binOp .shr 27 (.tmp 9) (.const (.int .u64 16)) 85⟩,
          ⟨some 0, .none, true, 27, .assign (.tmp 10)⟩])
      (.keep [0, 2]
      (.region [⟨some 11, .none, true, 3, .move (.tmp 2)⟩,
        ⟨some 12, .none, true, 3, .binOp .add 3 (.tmp 11) (.const (.int .i64 16)) 3⟩,
        ⟨some 2, .none, true, 3, .assign (.tmp 12)⟩])))
      .skip)))
  (.seq
    (.seq
      (.region [⟨some 13, .none, true, 27, .move (.tmp 0)⟩,
        ⟨some 14, .none, true, 4, .binOp .geq 27 (.tmp 13) (.const (.int .u64 256)) 27⟩])
    (.keep [0, 2, 14]
    (.cond (.tmp 14)
      (.seq
        (.region [⟨some 15, .none, true, 27, .move (.tmp 0)⟩,
          ⟨some 16, .none, true, 27, .binOp .shr 27 (.tmp 15) (.const (.int .u64 8)) 85⟩,
          ⟨some 0, .none, true, 27, .assign (.tmp 16)⟩])
      (.keep [0, 2]
      (.region [⟨some 17, .none, true, 3, .move (.tmp 2)⟩,
        ⟨some 18, .none, true, 3, .binOp .add 3 (.tmp 17) (.const (.int .i64 8)) 3⟩,
        ⟨some 2, .none, true, 3, .assign (.tmp 18)⟩])))
      .skip)))
  (.seq
    (.region [⟨some 19, .none, true, 3, .move (.tmp 2)⟩,
      ⟨some 20, .none, true, 27, .move (.tmp 0)⟩,
      ⟨some 21, .none, true, 5, .convert 27 5 (.tmp 20)⟩,
      ⟨some 22, .none, true, 5, .index 9 (.const (.string { data := #[0, 1, 2, 2, 3, 3, 3, 3, 4, 4, 4, 4, 4, 4, 4, 4, 5, 5, 5, 5, 5, 5, 5, 5, 5, 5, 5, 5, 5, 5, 5, 5, 6, 6, 6, 6, 6, 6, 6, 6, 6, 6, 6, 6, 6, 6, 6, 6, 6, 6, 6, 6, 6, 6, 6, 6, 6, 6, 6, 6, 6, 6, 6, 6, 7, 7, 7, 7, 7, 7, 7, 7, 7, 7, 7, 7, 7, 7, 7, 7, 7, 7, 7, 7, 7, 7, 7, 7, 7, 7, 7, 7, 7, 7, 7, 7, 7, 7, 7, 7, 7, 7, 7, 7, 7, 7, 7, 7, 7, 7, 7, 7, 7, 7, 7, 7, 7, 7, 7, 7, 7, 7, 7, 7, 7, 7, 7, 7, 8, 8, 8, 8, 8, 8, 8, 8, 8, 8, 8, 8, 8, 8, 8, 8, 8, 8, 8, 8, 8, 8, 8, 8, 8, 8, 8, 8, 8, 8, 8, 8, 8, 8, 8, 8, 8, 8, 8, 8, 8, 8, 8, 8, 8, 8, 8, 8, 8, 8, 8, 8, 8, 8, 8, 8, 8, 8, 8, 8, 8, 8, 8, 8, 8, 8, 8, 8, 8, 8, 8, 8, 8, 8, 8, 8, 8, 8, 8, 8, 8, 8, 8, 8, 8, 8, 8, 8, 8, 8, 8, 8, 8, 8, 8, 8, 8, 8, 8, 8, 8, 8, 8, 8, 8, 8, 8, 8, 8, 8, 8, 8, 8, 8, 8, 8, 8, 8, 8, 8, 8, 8, 8, 8, 8, 8, 8, 8] })) (.tmp 21)⟩,
      ⟨some 23, .none, true, 3, .convert 5 3 (.tmp 22)⟩,
      ⟨some 24, .none, true, 3, .binOp .add 3 (.tmp 19) (.tmp 23) 3⟩,
      ⟨some 2, .none, true, 3, .assign (.tmp 24)⟩])
  .ret))))))
theorem t_math_bits_Len64 : FnT Tryd.prog f_math_bits_Len64 rc_math_bits_Len64 [.tmp 2] 1 := ⟨⟨[], Tryd.f104, _, Tryd.func104, rfl, by kernel_rfl, by kernel_rfl, by kernel_rfl, rfl, by decide⟩, by kernel_rfl⟩
/-- internal/strconv.bool2[int] -/
abbrev f_internal_strconv_bool2_int : FuncId := 105
def rc_internal_strconv_bool2_int : RCode :=
  (.seq
    (.region [⟨some 2, .none, true, 3, .assign (.const (.int .i64 0))⟩])
  (.keep [0]
  (.seq
    (.seq
      (.region [⟨some 3, .none, true, 4, .move (.tmp 0)⟩])
    (.keep [3]
    (.cond (.tmp 3)
      (.seq
        (.region [⟨some 2, .none, true, 3, .assign (.const (.int .i64 1))⟩])
      .ret)
      .skip)))
  (.seq
    (.region [⟨some 2, .none, true, 3, .assign (.const (.int .i64 0))⟩])
  .ret))))
theorem t_internal_strconv_bool2_int : FnT Tryd.prog f_internal_strconv_bool2_int rc_internal_strconv_bool2_int [.tmp 2] 1 := ⟨⟨[], Tryd.f105, _, Tryd.func105, rfl, by kernel_rfl, by kernel_rfl, by kernel_rfl, rfl, by decide⟩, by kernel_rfl⟩
/-- internal/strconv.isPowerOfTwo -/
abbrev f_internal_strconv_isPowerOfTwo : FuncId := 106
def rc_internal_strconv_isPowerOfTwo : RCode :=
  (.seq
    (.region [⟨some 2, .none, true, 4, .assign (.const (.bool false))⟩])
  (.keep [0]
  (.seq
    (.region [⟨some 3, .none, true, 3, .move (.tmp 0)⟩,
      ⟨some 4, .none, true, 3, .move (.tmp 0)⟩,
      ⟨some 5, .none, true, 3, .binOp .sub 3 (.tmp 4) (.const (.int .i64 1)) 3⟩,
      ⟨some 6, .none, true, 3, .binOp .and 3 (.tmp 3) (.tmp 5) 3⟩,
      ⟨some 7, .none, true, 4, .binOp .eql 3 (.tmp 6) (.const (.int .i64 0)) 3⟩,
      ⟨some 2, .none, true, 4, .assign (.tmp 7)⟩])
  .ret)))
theorem t_internal_strconv_isPowerOfTwo : FnT Tryd.prog f_internal_strconv_isPowerOfTwo rc_internal_strconv_isPowerOfTwo [.tmp 2] 1 := ⟨⟨[], Tryd.f106, _, Tryd.func106, rfl, by kernel_rfl, by kernel_rfl, by kernel_rfl, rfl, by decide⟩, by kernel_rfl⟩
/-- math/bits.TrailingZeros -/
abbrev f_math_bits_TrailingZeros : FuncId := 107
def rc_math_bits_TrailingZeros : RCode :=
  (.seq
    (.region [⟨some 2, .none, true, 3, .assign (.const (.int .i64 0))⟩])
  (.keep [0]
  (.seq
    (.cond (.const (.bool false))
      (.seq
        (.region [⟨some 3, .none, true, 85, .move (.tmp 0)⟩,
          ⟨some 4, .none, true, 136, .convert 85 136 (.tmp 3)⟩,
          ⟨some 5, .none, true, 3, .call { callee := .value (.func 115), args := #[.tmp 4], argTypes := #[136] }⟩,
          ⟨some 2, .none, true, 3, .assign (.tmp 5)⟩])
      .ret)
      .skip)
  (.keep [0]
  (.seq
    (.region [⟨some 6, .none, true, 85, .move (.tmp 0)⟩,
      ⟨some 7, .none, true, 3, .call { callee := .value (.func 116), args := #[.tmp 6], argTypes := #[27] }⟩,
      ⟨some 2, .none, true, 3, .assign (.tmp 7)⟩])
  .ret)))))
theorem t_math_bits_TrailingZeros : FnT Tryd.prog f_math_bits_TrailingZeros rc_math_bits_TrailingZeros [.tmp 2] 1 := ⟨⟨[], Tryd.f107, _, Tryd.func107, rfl, by kernel_rfl, by kernel_rfl, by kernel_rfl, rfl, by decide⟩, by kernel_rfl⟩
/-- unicode/utf8.decodeRuneInStringSlow -/
abbrev f_unicode_utf8_decodeRuneInStringSlow : FuncId := 108
def rc_unicode_utf8_decodeRuneInStringSlow : RCode :=
  (.seq
    (.region [⟨some 2, .none, true, 21, .assign (.const (.int .i32 0))⟩,
      ⟨some 3, .none, true, 3, .assign (.const (.int .i64 0))⟩])
  (.keep [0]
  (.seq
    (.region [⟨some 13, .none, true, 9, .move (.tmp 0)⟩,
      ⟨some 14, .none, true, 3, .call { callee := .builtin .len, args := #[.tmp 13], argTypes := #[9] }⟩,
      ⟨some 4, .none, true, 3, .assign (.tmp 14)⟩])
  (.keep [0, 4]
  (.seq
    (.seq
      (.region [⟨some 15, .none, true, 3, .move (.tmp 4)⟩,
        ⟨some 16, .none, true, 4, .binOp .lss 3 (.tmp 15) (.const (.int .i64 1)) 3⟩])
    (.keep [0, 4, 16]
    (.cond (.tmp 16)
      (.seq
        (.region [⟨some 2, .none, true, 21, .assign (.const (.int .i32 65533))⟩,
          ⟨some 3, .none, true, 3, .assign (.const (.int .i64 0))⟩])
      .ret)
      .skip)))
  (.seq
    (.region [⟨some 17, .none, true, 9, .move (.tmp 0)⟩,
      ⟨some 18, .none, true, 5, .index 9 (.tmp 17) (.const (.int .i64 0))⟩,
      ⟨some 5, .none, true, 5, .assign (.tmp 18)⟩])
  (.keep [0, 4, 5]
  (.seq
    (.region [⟨some 19, .none, true, 5, .move (.tmp 5)⟩,
      ⟨some 20, .none, true, 0, .indexAddr 145 (.global 4) (.tmp 19)⟩,
      ⟨some 21, .none, true, 5, .load 5 (.tmp 20)⟩,
      ⟨some 6, .none, true, 5, .assign (.tmp 21)⟩])
  (.keep [0, 4, 5, 6]
  (.seq
    (.seq
      (.region [⟨some 22, .none, true, 5, .move (.tmp 6)⟩,
        ⟨some 23, .none, true, 4, .binOp .geq 5 (.tmp 22) (.const (.int .u8 240)) 5⟩])
    (.keep [0, 4, 5, 6, 23]
    (.cond (.tmp 23)
      (.seq
        (.region [⟨some 24, .none, true, 5, .move (.tmp 6)⟩,
          ⟨some 25, .none, true, 21, .convert 5 21 (.tmp 24)⟩,
          ⟨some 26, .none, true, 21, .binOp .shl 21 (.tmp 25) (.const (.int .u64 31)) 85⟩,
          ⟨some 27, .none, true, 21, .binOp .shr 21 (.tmp 26) (.const (.int .u64 31)) 85⟩,
          ⟨some 7, .none, true, 21, .assign (.tmp 27)⟩])
      (.keep [0, 7]
      (.seq
        (.region [⟨some 28, .none, true, 9, .move (.tmp 0)⟩,
          ⟨some 29, .none, true, 5, .index 9 (.tmp 28) (.const (.int .i64 0))⟩,
          ⟨some 30, .none, true, 21, .convert 5 21 (.tmp 29)⟩,
          ⟨some 31, .none, true, 21, .move (.tmp 7)⟩,
          ⟨some 32, .none, true, 21, .binOp .andNot 21 (.tmp 30) (.tmp 31) 21⟩,
          ⟨some 33, .none, true, 21, .move (.tmp 7)⟩,
          ⟨some 34, .none, true, 21, .binOp .and 21 (.const (.int .i32 65533)) (.tmp 33) 21⟩,
          ⟨some 35, .none, true, 21, .binOp .or 21 (.tmp 32) (.tmp 34) 21⟩,
          ⟨some 2, .none, true, 21, .assign (.tmp 35)⟩,
          ⟨some 3, .none, true, 3, .assign (.const (.int .i64 1))⟩])
      .ret)))
      .skip)))
  (.seq
    (.region [⟨some 36, .none, true, 5, .move (.tmp 6)⟩,
      ⟨some 37, .none, true, 5, .binOp .and 5 (.tmp 36) (.const (.int .u8 7)) 5⟩,
      ⟨some 38, .none, true, 3, .convert 5 3 (.tmp 37)⟩,
      ⟨some 8, .none, true, 3, .assign (.tmp 38)⟩])
  (.keep [0, 4, 5, 6, 8]
  (.seq
    (.region [⟨some 39, .none, true, 5, .move (.tmp 6)⟩,
      ⟨some 40, .none, true, 5, .binOp .shr 5 (.tmp 39) (.const (.int .u64 4)) 85⟩,
      ⟨some 41, .none, true, 0, .indexAddr 148 (.global 5) (.tmp 40)⟩,
      ⟨some 42, .none, true, 147, .load 147 (.tmp 41)⟩,
      ⟨some 9, .none, true, 0, .alloc 147⟩,
      ⟨none, .none, true, 0, .store 147 (.tmp 9) (.tmp 42)⟩])
  (.keep [0, 4, 5, 8, 9]
  (.seq
    (.seq
      (.region [⟨some 43, .none, true, 3, .move (.tmp 4)⟩,
        ⟨some 44, .none, true, 3, .move (.tmp 8)⟩,
        ⟨some 45, .none, true, 4, .binOp .lss 3 (.tmp 43) (.tmp 44) 3⟩])
    (.keep [0, 5, 8, 9, 45]
    (.cond (.tmp 45)
      (.seq
        (.region [⟨some 2, .none, true, 21, .assign (.const (.int .i32 65533))⟩,
          ⟨some 3, .none, true, 3, .assign (.const (.int .i64 1))⟩])
      .ret)
      .skip)))
  (.seq
    (.region [⟨some 46, .none, true, 9, .move (.tmp 0)⟩,
      ⟨some 47, .none, true, 5, .index 9 (.tmp 46) (.const (.int .i64 1))⟩,
      ⟨some 10, .none, true, 5, .assign (.tmp 47)⟩])
  (.keep [0, 5, 8, 9, 10]
  (.seq
    (.seq
      (.region [⟨some 48, .none, true, 5, .move (.tmp 10)⟩,
        ⟨some 49, .none, true, 0, .fieldAddr 147 (.tmp 9) 0⟩,
        ⟨some 50, .none, true, 5, .load 5 (.tmp 49)⟩,
        ⟨some 51, .none, true, 4, .binOp .lss 5 (.tmp 48) (.tmp 50) 5⟩,
        ⟨some 52, .none, true, 4, .move (.tmp 51)⟩,
        ⟨some 53, .some 52 false, true, 0, .fieldAddr 147 (.tmp 9) 1⟩,
        ⟨some 54, .some 52 false, true, 5, .load 5 (.tmp 53)⟩,
        ⟨some 55, .some 52 false, true, 5, .move (.tmp 10)⟩,
        ⟨some 56, .some 52 false, true, 4, .binOp .lss 5 (.tmp 54) (.tmp 55) 5⟩,
        ⟨some 57, .none, true, 4, .pick (.tmp 52) (.const (.bool true)) (.tmp 56)⟩])
    (.keep [0, 5, 8, 10, 57]
    (.cond (.tmp 57)
      (.seq
        (.region [⟨some 2, .none, true, 21, .assign (.const (.int .i32 65533))⟩,
          ⟨some 3, .none, true, 3, .assign (.const (.int .i64 1))⟩])
      .ret)
      .skip)))
  (.seq
    (.seq
      (.region [⟨some 58, .none, true, 3, .move (.tmp 8)⟩,
        ⟨some 59, .none, true, 4, .binOp .leq 3 (.tmp 58) (.const (.int .i64 2)) 3⟩])
    (.keep [0, 5, 8, 10, 59]
    (.cond (.tmp 59)
      (.seq
        (.region [⟨some 60, .none, true, 5, .move (.tmp 5)⟩,
          ⟨some 61, .none, true, 5, .binOp .and 5 (.tmp 60) (.const (.int .u8 31)) 5⟩,
          ⟨some 62, .none, true, 21, .convert 5 21 (.tmp 61)⟩,
          ⟨some 63, .none, true, 21, .binOp .shl 21 (.tmp 62) (.const (.int .u64 6)) 85⟩,
          ⟨some 64, .none, true, 5, .move (.tmp 10)⟩,
          ⟨some 65, .none, true, 5, .binOp .and 5 (.tmp 64) (.const (.int .u8 63)) 5⟩,
          ⟨some 66, .none, true, 21, .convert 5 21 (.tmp 65)⟩,
          ⟨some 67, .none, true, 21, .binOp .or 21 (.tmp 63) (.tmp 66) 21⟩,
          ⟨some 2, .none, true, 21, .assign (.tmp 67)⟩,
          ⟨some 3, .none, true, 3, .assign (.const (.int .i64 2))⟩])
      .ret)
      .skip)))
  (.seq
    (.region [⟨some 68, .none, true, 9, .move (.tmp 0)⟩,
      ⟨some 69, .none, true, 5, .index 9 (.tmp 68) (.const (.int .i64 2))⟩,
      ⟨some 11, .none, true, 5, .assign (.tmp 69)⟩])
  (.keep [0, 5, 8, 10, 11]
  (.seq
    (.seq
      (.region [⟨some 70, .none, true, 5, .move (.tmp 11)⟩,
        ⟨some 71, .none, true, 4, .binOp .lss 5 (.tmp 70) (.const (.int .u8 128)) 5⟩,
        ⟨some 72, .none, true, 4, .move (.tmp 71)⟩,
        ⟨some 73, .some 72 false, true, 5, .move (.tmp 11)⟩,
        ⟨some 74, .some 72 false, true, 4, .binOp .lss 5 (.const (.int .u8 191)) (.tmp 73) 5⟩,
        ⟨some 75, .none, true, 4, .pick (.tmp 72) (.const (.bool true)) (.tmp 74)⟩])
    (.keep [0, 5, 8, 10, 11, 75]
    (.cond (.tmp 75)
      (.seq
        (.region [⟨some 2, .none, true, 21, .assign (.const (.int .i32 65533))⟩,
          ⟨some 3, .none, true, 3, .assign (.const (.int .i64 1))⟩])
      .ret)
      .skip)))
  (.seq
    (.seq
      (.region [⟨some 76, .none, true, 3, .move (.tmp 8)⟩,
        ⟨some 77, .none, true, 4, .binOp .leq 3 (.tmp 76) (.const (.int .i64 3)) 3⟩])
    (.keep [0, 5, 10, 11, 77]
    (.cond (.tmp 77)
      (.seq
        (.region [⟨some 78, .none, true, 5, .move (.tmp 5)⟩,
          ⟨some 79, .none, true, 5, .binOp .and 5 (.tmp 78) (.const (.int .u8 15)) 5⟩,
          ⟨some 80, .none, true, 21, .convert 5 21 (.tmp 79)⟩,
          ⟨some 81, .none, true, 21, .binOp .shl 21 (.tmp 80) (.const (.int .u64 12)) 85⟩,
          ⟨some 82, .none, true, 5, .move (.tmp 10)⟩,
          ⟨some 83, .none, true, 5, .binOp .and 5 (.tmp 82) (.const (.int .u8 63)) 5⟩,
          ⟨some 84, .none, true, 21, .convert 5 21 (.tmp 83)⟩,
          ⟨some 85, .none, true, 21, .binOp .shl 21 (.tmp 84) (.const (.int .u64 6)) 85⟩,
          ⟨some 86, .none, true, 21, .binOp .or 21 (.tmp 81) (.tmp 85) 21⟩,
          ⟨some 87, .none, true, 5, .move (.tmp 11)⟩,
          ⟨some 88, .none, true, 5, .binOp .and 5 (.tmp 87) (.const (.int .u8 63)) 5⟩,
          ⟨some 89, .none, true, 21, .convert 5 21 (.tmp 88)⟩,
          ⟨some 90, .none, true, 21, .binOp .or 21 (.tmp 86) (.tmp 89) 21⟩,
          ⟨some 2, .none, true, 21, .assign (.tmp 90)⟩,
          ⟨some 3, .none, true, 3, .assign (.const (.int .i64 3))⟩])
      .ret)
      .skip)))
  (.seq
    (.region [⟨some 91, .none, true, 9, .move (.tmp 0)⟩,
      ⟨some 92, .none, true, 5, .index 9 (.tmp 91) (.const (.int .i64 3))⟩,
      ⟨some 12, .none, true, 5, .assign (.tmp 92)⟩])
  (.keep [5, 10, 11, 12]
  (.seq
    (.seq
      (.region [⟨some 93, .none, true, 5, .move (.tmp 12)⟩,
        ⟨some 94, .none, true, 4, .binOp .lss 5 (.tmp 93) (.const (.int .u8 128)) 5⟩,
        ⟨some 95, .none, true, 4, .move (.tmp 94)⟩,
        ⟨some 96, .some 95 false, true, 5, .move (.tmp 12)⟩,
        ⟨some 97, .some 95 false, true, 4, .binOp .lss 5 (.const (.int .u8 191)) (.tmp 96) 5⟩,
        ⟨some 98, .none, true, 4, .pick (.tmp 95) (.const (.bool true)) (.tmp 97)⟩])
    (.keep [5, 10, 11, 12, 98]
    (.cond (.tmp 98)
      (.seq
        (.region [⟨some 2, .none, true, 21, .assign (.const (.int .i32 65533))⟩,
          ⟨some 3, .none, true, 3, .assign (.const (.int .i64 1))⟩])
      .ret)
      .skip)))
  (.seq
    (.region [⟨some 99, .none, true, 5, .move (.tmp 5)⟩,
      ⟨some 100, .none, true, 5, .binOp .and 5 (.tmp 99) (.const (.int .u8 7)) 5⟩,
      ⟨some 101, .none, true, 21, .convert 5 21 (.tmp 100)⟩,
      ⟨some 102, .none, true, 21, .binOp .shl 21 (.tmp 101) (.const (.int .u64 18)) 85⟩,
      ⟨some 103, .none, true, 5, .move (.tmp 10)⟩,
      ⟨some 104, .none, true, 5, .binOp .and 5 (.tmp 103) (.const (.int .u8 63)) 5⟩,
      ⟨some 105, .none, true, 21, .convert 5 21 (.tmp 104)⟩,
      ⟨some 106, .none, true, 21, .binOp .shl 21 (.tmp 105) (.const (.int .u64 12)) 85⟩,
      ⟨some 107, .none, true, 21, .binOp .or 21 (.tmp 102) (.tmp 106) 21⟩,
      ⟨some 108, .none, true, 5, .move (.tmp 11)⟩,
      ⟨some 109, .none, true, 5, .binOp .and 5 (.tmp 108) (.const (.int .u8 63)) 5⟩,
      ⟨some 110, .none, true, 21, .convert 5 21 (.tmp 109)⟩,
      ⟨some 111, .none, true, 21, .binOp .shl 21 (.tmp 110) (.const (.int .u64 6)) 85⟩,
      ⟨some 112, .none, true, 21, .binOp .or 21 (.tmp 107) (.tmp 111) 21⟩,
      ⟨some 113, .none, true, 5, .move (.tmp 12)⟩,
      ⟨some 114, .none, true, 5, .binOp .and 5 (.tmp 113) (.const (.int .u8 63)) 5⟩,
      ⟨some 115, .none, true, 21, .convert 5 21 (.tmp 114)⟩,
      ⟨some 116, .none, true, 21, .binOp .or 21 (.tmp 112) (.tmp 115) 21⟩,
      ⟨some 2, .none, true, 21, .assign (.tmp 116)⟩,
      ⟨some 3, .none, true, 3, .assign (.const (.int .i64 4))⟩])
  .ret)))))))))))))))))))))))))))
theorem t_unicode_utf8_decodeRuneInStringSlow : FnT Tryd.prog f_unicode_utf8_decodeRuneInStringSlow rc_unicode_utf8_decodeRuneInStringSlow [.tmp 2, .tmp 3] 1 := ⟨⟨[], Tryd.f108, _, Tryd.func108, rfl, by kernel_rfl, by kernel_rfl, by kernel_rfl, rfl, by decide⟩, by kernel_rfl⟩
/-- internal/stringslite.IndexByte -/
abbrev f_internal_stringslite_IndexByte : FuncId := 109
def rc_internal_stringslite_IndexByte : RCode :=
  (.seq
    (.region [⟨some 4, .none, true, 3, .assign (.const (.int .i64 0))⟩])
  (.keep [0, 1]
  (.seq
    (.region [⟨some 5, .none, true, 9, .move (.tmp 0)⟩,
      ⟨some 6, .none, true, 5, .move (.tmp 1)⟩,
      ⟨some 7, .none, true, 3, .call { callee := .value (.func 117), args := #[.tmp 5, .tmp 6], argTypes := #[9, 5] }⟩,
      ⟨some 4, .none, true, 3, .assign (.tmp 7)⟩])
  .ret)))
theorem t_internal_stringslite_IndexByte : FnT Tryd.prog f_internal_stringslite_IndexByte rc_internal_stringslite_IndexByte [.tmp 4] 2 := ⟨⟨[], Tryd.f109, _, Tryd.func109, rfl, by kernel_rfl, by kernel_rfl, by kernel_rfl, rfl, by decide⟩, by kernel_rfl⟩
/-- internal/bytealg.Cutover -/
abbrev f_internal_bytealg_Cutover : FuncId := 111
def rc_internal_bytealg_Cutover : RCode :=
  (.seq
    (.region [⟨some 2, .none, true, 3, .assign (.const (.int .i64 0))⟩])
  (.keep [0]
  (.seq
    (.region [⟨some 3, .none, true, 3, .move (.tmp 0)⟩,
      ⟨some 4, .none, true, 3, .binOp .add 3 (.tmp 3) (.const (.int .i64 16)) 3⟩,
      ⟨some 5, .none, true, 3, .binOp .quo 3 (.tmp 4) (.const (.int .i64 8)) 3⟩,
      ⟨some 2, .none, true, 3, .assign (.tmp 5)⟩])
  .ret)))
theorem t_internal_bytealg_Cutover : FnT Tryd.prog f_internal_bytealg_Cutover rc_internal_bytealg_Cutover [.tmp 2] 1 := ⟨⟨[], Tryd.f111, _, Tryd.func111, rfl, by kernel_rfl, by kernel_rfl, by kernel_rfl, rfl, by decide⟩, by kernel_rfl⟩
/-- internal/bytealg.IndexRabinKarp[string] -/
abbrev f_internal_bytealg_IndexRabinKarp_string : FuncId := 112
def rc_internal_bytealg_IndexRabinKarp_stringl0 : RCode :=
  (.seq
    (.seq
      (.region [⟨some 18, .none, true, 3, .move (.tmp 9)⟩,
        ⟨some 19, .none, true, 3, .move (.tmp 7)⟩,
        ⟨some 20, .none, true, 4, .binOp .lss 3 (.tmp 18) (.tmp 19) 3⟩])
    (.keep [0, 1, 5, 6, 7, 8, 9, 20]
    (.cond (.tmp 20)
      .skip
      (.exit 0))))
  (.seq
    (.block 1
      (.region [⟨some 23, .none, true, 136, .move (.tmp 8)⟩,
        ⟨some 24, .none, true, 136, .binOp .mul 136 (.tmp 23) (.const (.int .u32 16777619)) 136⟩,
        ⟨some 25, .none, true, 9, .move (.tmp 0)⟩,
        ⟨some 26, .none, true, 3, .move (.tmp 9)⟩,
        ⟨some 27, .none, true, 5, .index 9 (.tmp 25) (.tmp 26)⟩,
        ⟨some 28, .none, true, 136, .convert 5 136 (.tmp 27)⟩,
        ⟨some 29, .none, true, 136, .binOp .add 136 (.tmp 24) (.tmp 28) 136⟩,
        ⟨some 8, .none, true, 136, .assign (.tmp 29)⟩]))
  (.keep [0, 1, 5, 6, 7, 8, 9]
  (.region [⟨some 21, .none, true, 3, .move (.tmp 9)⟩,
    ⟨some 22, .none, true, 3, .binOp .add 3 (.tmp 21) (.const (.int .i64 1)) 3⟩,
    ⟨some 9, .none, true, 3, .assign (.tmp 22)⟩]))))
end Go.Proofs.YtfcbhgiccgommaaDoor.F9K
