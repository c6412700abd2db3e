/- Functions of the program made ready for walking, each with its proof; facts of types. Written by gen2.py. -/
import Derived.Test.YtfcbhgiccgommaaDoorProg
import Derived.Test.YtfcbhgiccgommaaDoorAbsD
set_option linter.unusedVariables false
set_option maxRecDepth 100000
namespace Go.Proofs.YtfcbhgiccgommaaDoor.F9
open Go Go.Proofs Go.Proofs.YtfcbhgiccgommaaDoorAbs
theorem hm : Tryd.prog.follows .mixedOrders = true := by kernel_rfl
/-- internal/abi.NoEscape (without a body) -/
abbrev f_internal_abi_NoEscape : FuncId := 94
/-- internal/bytealg.MakeNoZero (without a body) -/
abbrev f_internal_bytealg_MakeNoZero : FuncId := 95
/-- internal/bytealg.CountString (without a body) -/
abbrev f_internal_bytealg_CountString : FuncId := 98
/-- internal/bytealg.IndexString (without a body) -/
abbrev f_internal_bytealg_IndexString : FuncId := 110
/-- internal/bytealg.IndexByteString (without a body) -/
abbrev f_internal_bytealg_IndexByteString : FuncId := 117
abbrev T_int : TypeId := 3
theorem ts_int : tsize Tryd.prog 3 = some 1 := by kernel_rfl
theorem tb_int : tbytes Tryd.prog 3 = some 8 := by kernel_rfl
theorem ta_int : tagg Tryd.prog 3 = some false := by kernel_rfl
theorem tz_int : zeroFlat Tryd.prog 3 = some [.int .i64 0] := by kernel_rfl
theorem tv_int : tzero Tryd.prog 3 = some (.int .i64 0) := by kernel_rfl
theorem tu_int : Tryd.prog.underlying 3 = some (.int .i64) := by kernel_rfl
abbrev T_bool : TypeId := 4
theorem ts_bool : tsize Tryd.prog 4 = some 1 := by kernel_rfl
theorem tb_bool : tbytes Tryd.prog 4 = some 1 := by kernel_rfl
theorem ta_bool : tagg Tryd.prog 4 = some false := by kernel_rfl
theorem tz_bool : zeroFlat Tryd.prog 4 = some [.bool false] := by kernel_rfl
theorem tv_bool : tzero Tryd.prog 4 = some (.bool false) := by kernel_rfl
theorem tu_bool : Tryd.prog.underlying 4 = some (.bool) := by kernel_rfl
abbrev T_string : TypeId := 9
theorem ts_string : tsize Tryd.prog 9 = some 1 := by kernel_rfl
theorem tb_string : tbytes Tryd.prog 9 = some 16 := by kernel_rfl
theorem ta_string : tagg Tryd.prog 9 = some false := by kernel_rfl
theorem tz_string : zeroFlat Tryd.prog 9 = some [.string ByteArray.empty] := by kernel_rfl
theorem tv_string : tzero Tryd.prog 9 = some (.string ByteArray.empty) := by kernel_rfl
theorem tu_string : Tryd.prog.underlying 9 = some (.string) := by kernel_rfl
abbrev T_S_int : TypeId := 22
theorem ts_S_int : tsize Tryd.prog 22 = some 1 := by kernel_rfl
theorem tb_S_int : tbytes Tryd.prog 22 = some 24 := by kernel_rfl
theorem ta_S_int : tagg Tryd.prog 22 = some false := by kernel_rfl
theorem tz_S_int : zeroFlat Tryd.prog 22 = some [.slice none 0 0] := by kernel_rfl
theorem tv_S_int : tzero Tryd.prog 22 = some (.slice none 0 0) := by kernel_rfl
theorem tu_S_int : Tryd.prog.underlying 22 = some (.slice 3) := by kernel_rfl
abbrev T_path_Path : TypeId := 25
theorem ts_path_Path : tsize Tryd.prog 25 = some 1 := by kernel_rfl
theorem tb_path_Path : tbytes Tryd.prog 25 = some 24 := by kernel_rfl
theorem ta_path_Path : tagg Tryd.prog 25 = some true := by kernel_rfl
theorem tz_path_Path : zeroFlat Tryd.prog 25 = some [.slice none 0 0] := by kernel_rfl
theorem tv_path_Path : tzero Tryd.prog 25 = some (.agg #[.slice none 0 0]) := by kernel_rfl
theorem tp_path_Path : tplaces Tryd.prog 25 = some [(0, 1)] := by kernel_rfl
theorem tf_path_Path_L : tfield Tryd.prog 25 0 = some (22, 0) := by kernel_rfl
theorem tg_path_Path_L : tfield' Tryd.prog 25 0 = some (22, 0) := by kernel_rfl
abbrev T_uint64 : TypeId := 27
theorem ts_uint64 : tsize Tryd.prog 27 = some 1 := by kernel_rfl
theorem tb_uint64 : tbytes Tryd.prog 27 = some 8 := by kernel_rfl
theorem ta_uint64 : tagg Tryd.prog 27 = some false := by kernel_rfl
theorem tz_uint64 : zeroFlat Tryd.prog 27 = some [.int .u64 0] := by kernel_rfl
theorem tv_uint64 : tzero Tryd.prog 27 = some (.int .u64 0) := by kernel_rfl
theorem tu_uint64 : Tryd.prog.underlying 27 = some (.int .u64) := by kernel_rfl
abbrev T_S_string : TypeId := 65
theorem ts_S_string : tsize Tryd.prog 65 = some 1 := by kernel_rfl
theorem tb_S_string : tbytes Tryd.prog 65 = some 24 := by kernel_rfl
theorem ta_S_string : tagg Tryd.prog 65 = some false := by kernel_rfl
theorem tz_S_string : zeroFlat Tryd.prog 65 = some [.slice none 0 0] := by kernel_rfl
theorem tv_S_string : tzero Tryd.prog 65 = some (.slice none 0 0) := by kernel_rfl
theorem tu_S_string : Tryd.prog.underlying 65 = some (.slice 9) := by kernel_rfl
abbrev T_uint8 : TypeId := 5
theorem ts_uint8 : tsize Tryd.prog 5 = some 1 := by kernel_rfl
theorem tb_uint8 : tbytes Tryd.prog 5 = some 1 := by kernel_rfl
theorem ta_uint8 : tagg Tryd.prog 5 = some false := by kernel_rfl
theorem tz_uint8 : zeroFlat Tryd.prog 5 = some [.int .u8 0] := by kernel_rfl
theorem tv_uint8 : tzero Tryd.prog 5 = some (.int .u8 0) := by kernel_rfl
theorem tu_uint8 : Tryd.prog.underlying 5 = some (.int .u8) := by kernel_rfl
abbrev T_interface : TypeId := 20
theorem ts_interface : tsize Tryd.prog 20 = some 1 := by kernel_rfl
theorem tb_interface : tbytes Tryd.prog 20 = some 16 := by kernel_rfl
theorem ta_interface : tagg Tryd.prog 20 = some false := by kernel_rfl
theorem tz_interface : zeroFlat Tryd.prog 20 = some [.nilIface] := by kernel_rfl
theorem tv_interface : tzero Tryd.prog 20 = some (.nilIface) := by kernel_rfl
abbrev T_P_strings_Builder : TypeId := 92
theorem ts_P_strings_Builder : tsize Tryd.prog 92 = some 1 := by kernel_rfl
theorem tb_P_strings_Builder : tbytes Tryd.prog 92 = some 8 := by kernel_rfl
theorem ta_P_strings_Builder : tagg Tryd.prog 92 = some false := by kernel_rfl
theorem tz_P_strings_Builder : zeroFlat Tryd.prog 92 = some [.pointer none] := by kernel_rfl
theorem tv_P_strings_Builder : tzero Tryd.prog 92 = some (.pointer none) := by kernel_rfl
theorem tu_P_strings_Builder : Tryd.prog.underlying 92 = some (.pointer 95) := by kernel_rfl
abbrev T_S_uint8 : TypeId := 93
theorem ts_S_uint8 : tsize Tryd.prog 93 = some 1 := by kernel_rfl
theorem tb_S_uint8 : tbytes Tryd.prog 93 = some 24 := by kernel_rfl
theorem ta_S_uint8 : tagg Tryd.prog 93 = some false := by kernel_rfl
theorem tz_S_uint8 : zeroFlat Tryd.prog 93 = some [.slice none 0 0] := by kernel_rfl
theorem tv_S_uint8 : tzero Tryd.prog 93 = some (.slice none 0 0) := by kernel_rfl
theorem tu_S_uint8 : Tryd.prog.underlying 93 = some (.slice 5) := by kernel_rfl
abbrev T_strings_Builder : TypeId := 95
theorem ts_strings_Builder : tsize Tryd.prog 95 = some 2 := by kernel_rfl
theorem tb_strings_Builder : tbytes Tryd.prog 95 = some 32 := by kernel_rfl
theorem ta_strings_Builder : tagg Tryd.prog 95 = some true := by kernel_rfl
theorem tz_strings_Builder : zeroFlat Tryd.prog 95 = some [.pointer none, .slice none 0 0] := by kernel_rfl
theorem tv_strings_Builder : tzero Tryd.prog 95 = some (.agg #[.pointer none, .slice none 0 0]) := by kernel_rfl
theorem tp_strings_Builder : tplaces Tryd.prog 95 = some [(0, 1), (1, 1)] := by kernel_rfl
theorem tf_strings_Builder_addr : tfield Tryd.prog 95 0 = some (92, 0) := by kernel_rfl
theorem tg_strings_Builder_addr : tfield' Tryd.prog 95 0 = some (92, 0) := by kernel_rfl
theorem tf_strings_Builder_buf : tfield Tryd.prog 95 1 = some (93, 1) := by kernel_rfl
theorem tg_strings_Builder_buf : tfield' Tryd.prog 95 1 = some (93, 1) := by kernel_rfl
abbrev T_int64 : TypeId := 2
theorem ts_int64 : tsize Tryd.prog 2 = some 1 := by kernel_rfl
theorem tb_int64 : tbytes Tryd.prog 2 = some 8 := by kernel_rfl
theorem ta_int64 : tagg Tryd.prog 2 = some false := by kernel_rfl
theorem tz_int64 : zeroFlat Tryd.prog 2 = some [.int .i64 0] := by kernel_rfl
theorem tv_int64 : tzero Tryd.prog 2 = some (.int .i64 0) := by kernel_rfl
theorem tu_int64 : Tryd.prog.underlying 2 = some (.int .i64) := by kernel_rfl
abbrev T_error : TypeId := 88
theorem ts_error : tsize Tryd.prog 88 = some 1 := by kernel_rfl
theorem tb_error : tbytes Tryd.prog 88 = some 16 := by kernel_rfl
theorem ta_error : tagg Tryd.prog 88 = some false := by kernel_rfl
theorem tz_error : zeroFlat Tryd.prog 88 = some [.nilIface] := by kernel_rfl
theorem tv_error : tzero Tryd.prog 88 = some (.nilIface) := by kernel_rfl
abbrev T_P_uint8 : TypeId := 107
theorem ts_P_uint8 : tsize Tryd.prog 107 = some 1 := by kernel_rfl
theorem tb_P_uint8 : tbytes Tryd.prog 107 = some 8 := by kernel_rfl
theorem ta_P_uint8 : tagg Tryd.prog 107 = some false := by kernel_rfl
theorem tz_P_uint8 : zeroFlat Tryd.prog 107 = some [.pointer none] := by kernel_rfl
theorem tv_P_uint8 : tzero Tryd.prog 107 = some (.pointer none) := by kernel_rfl
theorem tu_P_uint8 : Tryd.prog.underlying 107 = some (.pointer 5) := by kernel_rfl
abbrev T_A24_uint8 : TypeId := 116
theorem te_A24_uint8 : eqOk Tryd.prog 116 = some [.int .u8, .int .u8, .int .u8, .int .u8, .int .u8, .int .u8, .int .u8, .int .u8, .int .u8, .int .u8, .int .u8, .int .u8, .int .u8, .int .u8, .int .u8, .int .u8, .int .u8, .int .u8, .int .u8, .int .u8, .int .u8, .int .u8, .int .u8, .int .u8] := by kernel_rfl
theorem ts_A24_uint8 : tsize Tryd.prog 116 = some 24 := by kernel_rfl
theorem tb_A24_uint8 : tbytes Tryd.prog 116 = some 24 := by kernel_rfl
theorem ta_A24_uint8 : tagg Tryd.prog 116 = some true := by kernel_rfl
theorem tz_A24_uint8 : zeroFlat Tryd.prog 116 = some [.int .u8 0, .int .u8 0, .int .u8 0, .int .u8 0, .int .u8 0, .int .u8 0, .int .u8 0, .int .u8 0, .int .u8 0, .int .u8 0, .int .u8 0, .int .u8 0, .int .u8 0, .int .u8 0, .int .u8 0, .int .u8 0, .int .u8 0, .int .u8 0, .int .u8 0, .int .u8 0, .int .u8 0, .int .u8 0, .int .u8 0, .int .u8 0] := by kernel_rfl
theorem tv_A24_uint8 : tzero Tryd.prog 116 = some (.agg #[.int .u8 0, .int .u8 0, .int .u8 0, .int .u8 0, .int .u8 0, .int .u8 0, .int .u8 0, .int .u8 0, .int .u8 0, .int .u8 0, .int .u8 0, .int .u8 0, .int .u8 0, .int .u8 0, .int .u8 0, .int .u8 0, .int .u8 0, .int .u8 0, .int .u8 0, .int .u8 0, .int .u8 0, .int .u8 0, .int .u8 0, .int .u8 0]) := by kernel_rfl
theorem tu_A24_uint8 : Tryd.prog.underlying 116 = some (.array 24 5) := by kernel_rfl
abbrev T_A20_uint64 : TypeId := 135
theorem te_A20_uint64 : eqOk Tryd.prog 135 = some [.int .u64, .int .u64, .int .u64, .int .u64, .int .u64, .int .u64, .int .u64, .int .u64, .int .u64, .int .u64, .int .u64, .int .u64, .int .u64, .int .u64, .int .u64, .int .u64, .int .u64, .int .u64, .int .u64, .int .u64] := by kernel_rfl
theorem ts_A20_uint64 : tsize Tryd.prog 135 = some 20 := by kernel_rfl
theorem tb_A20_uint64 : tbytes Tryd.prog 135 = some 160 := by kernel_rfl
theorem ta_A20_uint64 : tagg Tryd.prog 135 = some true := by kernel_rfl
theorem tz_A20_uint64 : zeroFlat Tryd.prog 135 = some [.int .u64 0, .int .u64 0, .int .u64 0, .int .u64 0, .int .u64 0, .int .u64 0, .int .u64 0, .int .u64 0, .int .u64 0, .int .u64 0, .int .u64 0, .int .u64 0, .int .u64 0, .int .u64 0, .int .u64 0, .int .u64 0, .int .u64 0, .int .u64 0, .int .u64 0, .int .u64 0] := by kernel_rfl
theorem tv_A20_uint64 : tzero Tryd.prog 135 = some (.agg #[.int .u64 0, .int .u64 0, .int .u64 0, .int .u64 0, .int .u64 0, .int .u64 0, .int .u64 0, .int .u64 0, .int .u64 0, .int .u64 0, .int .u64 0, .int .u64 0, .int .u64 0, .int .u64 0, .int .u64 0, .int .u64 0, .int .u64 0, .int .u64 0, .int .u64 0, .int .u64 0]) := by kernel_rfl
theorem tu_A20_uint64 : Tryd.prog.underlying 135 = some (.array 20 27) := by kernel_rfl
abbrev T_uint32 : TypeId := 136
theorem ts_uint32 : tsize Tryd.prog 136 = some 1 := by kernel_rfl
theorem tb_uint32 : tbytes Tryd.prog 136 = some 4 := by kernel_rfl
theorem ta_uint32 : tagg Tryd.prog 136 = some false := by kernel_rfl
theorem tz_uint32 : zeroFlat Tryd.prog 136 = some [.int .u32 0] := by kernel_rfl
theorem tv_uint32 : tzero Tryd.prog 136 = some (.int .u32 0) := by kernel_rfl
theorem tu_uint32 : Tryd.prog.underlying 136 = some (.int .u32) := by kernel_rfl
abbrev T_uint : TypeId := 85
theorem ts_uint : tsize Tryd.prog 85 = some 1 := by kernel_rfl
theorem tb_uint : tbytes Tryd.prog 85 = some 8 := by kernel_rfl
theorem ta_uint : tagg Tryd.prog 85 = some false := by kernel_rfl
theorem tz_uint : zeroFlat Tryd.prog 85 = some [.int .u64 0] := by kernel_rfl
theorem tv_uint : tzero Tryd.prog 85 = some (.int .u64 0) := by kernel_rfl
theorem tu_uint : Tryd.prog.underlying 85 = some (.int .u64) := by kernel_rfl
abbrev T_A65_uint8 : TypeId := 137
theorem ts_A65_uint8 : tsize Tryd.prog 137 = some 65 := by kernel_rfl
theorem tb_A65_uint8 : tbytes Tryd.prog 137 = some 65 := by kernel_rfl
theorem ta_A65_uint8 : tagg Tryd.prog 137 = some true := by kernel_rfl
theorem tu_A65_uint8 : Tryd.prog.underlying 137 = some (.array 65 5) := by kernel_rfl
abbrev T_A32_uint8 : TypeId := 151
theorem te_A32_uint8 : eqOk Tryd.prog 151 = some [.int .u8, .int .u8, .int .u8, .int .u8, .int .u8, .int .u8, .int .u8, .int .u8, .int .u8, .int .u8, .int .u8, .int .u8, .int .u8, .int .u8, .int .u8, .int .u8, .int .u8, .int .u8, .int .u8, .int .u8, .int .u8, .int .u8, .int .u8, .int .u8, .int .u8, .int .u8, .int .u8, .int .u8, .int .u8, .int .u8, .int .u8, .int .u8] := by kernel_rfl
theorem ts_A32_uint8 : tsize Tryd.prog 151 = some 32 := by kernel_rfl
theorem tb_A32_uint8 : tbytes Tryd.prog 151 = some 32 := by kernel_rfl
theorem ta_A32_uint8 : tagg Tryd.prog 151 = some true := by kernel_rfl
theorem tz_A32_uint8 : zeroFlat Tryd.prog 151 = some [.int .u8 0, .int .u8 0, .int .u8 0, .int .u8 0, .int .u8 0, .int .u8 0, .int .u8 0, .int .u8 0, .int .u8 0, .int .u8 0, .int .u8 0, .int .u8 0, .int .u8 0, .int .u8 0, .int .u8 0, .int .u8 0, .int .u8 0, .int .u8 0, .int .u8 0, .int .u8 0, .int .u8 0, .int .u8 0, .int .u8 0, .int .u8 0, .int .u8 0, .int .u8 0, .int .u8 0, .int .u8 0, .int .u8 0, .int .u8 0, .int .u8 0, .int .u8 0] := by kernel_rfl
theorem tv_A32_uint8 : tzero Tryd.prog 151 = some (.agg #[.int .u8 0, .int .u8 0, .int .u8 0, .int .u8 0, .int .u8 0, .int .u8 0, .int .u8 0, .int .u8 0, .int .u8 0, .int .u8 0, .int .u8 0, .int .u8 0, .int .u8 0, .int .u8 0, .int .u8 0, .int .u8 0, .int .u8 0, .int .u8 0, .int .u8 0, .int .u8 0, .int .u8 0, .int .u8 0, .int .u8 0, .int .u8 0, .int .u8 0, .int .u8 0, .int .u8 0, .int .u8 0, .int .u8 0, .int .u8 0, .int .u8 0, .int .u8 0]) := by kernel_rfl
theorem tu_A32_uint8 : Tryd.prog.underlying 151 = some (.array 32 5) := by kernel_rfl
abbrev T_A64_uint8 : TypeId := 152
theorem ts_A64_uint8 : tsize Tryd.prog 152 = some 64 := by kernel_rfl
theorem tb_A64_uint8 : tbytes Tryd.prog 152 = some 64 := by kernel_rfl
theorem ta_A64_uint8 : tagg Tryd.prog 152 = some true := by kernel_rfl
theorem tu_A64_uint8 : Tryd.prog.underlying 152 = some (.array 64 5) := by kernel_rfl
theorem bl_S_int : ∀ (ty : TypeId) (ev : Operand → Value) (g : AMem) (n : Nat) (len : Nat) (parts : Array (Nat × Operand)), len * 1 ≤ 16777216 → aOp Tryd.prog ty ev g n (.buildSlice 22 len parts) = (fillS 1 (zeroRow [.int .i64 0] len) (parts.toList.map fun p => (p.1, ev p.2))).map fun cs => (.slice (some ⟨n, 0, none⟩) len 1, .new (.row cs true)) := fun ty ev g n len parts hb => aOp_buildL tu_S_int tz_int ts_int rfl ty ev g n len parts hb
theorem ap_S_int : ∀ (g : AMem) (n : Nat) (s x : Value), aAppend Tryd.prog g n 22 s x = appR g n 0 8 s (aRead g 1 x) := inst_append tu_S_int ts_int tb_int tv_int rfl
theorem mk_S_int : ∀ (n : Nat) (k k' : IntKind) (l c : Int), aMake Tryd.prog n 22 (.int k l) (.int k' c) = if 0 ≤ l ∧ l ≤ c ∧ c ≤ 70368744177664 ∧ 8 * c.toNat ≤ 70368744177664 then some (.slice (some ⟨n, 0, none⟩) l.toNat 1, .new (.row (zeroRow [.int .i64 0] l.toNat) true)) else none := inst_make tu_S_int ts_int tb_int tv_int rfl rfl
theorem sl_S_int : ∀ (ty : TypeId) (ev : Operand → Value) (g : AMem) (n : Nat) (x : Operand) (lo hi : Option Operand), aOp Tryd.prog ty ev g n (.slice 22 x lo hi none) = (slR 1 (ev x) (lo.map ev) (hi.map ev)).map fun v => (v, .none) := aOp_sliceS tu_S_int ts_int
theorem cp_S_int : ∀ (g : AMem) (d s : Value), aCopy Tryd.prog g 22 d s = cpR g 1 d (aRead g 1 s) := aCopy_eq tu_S_int ts_int
theorem bs_path_Path : ∀ (ty : TypeId) (ev : Operand → Value) (g : AMem) (n : Nat) (parts : Array (Nat × Operand)), aOp Tryd.prog ty ev g n (.build 25 parts) = (fillP [(0, 1)] [.slice none 0 0] (parts.toList.map fun p => (p.1, ev p.2))).map fun cs => (.agg cs.toArray, .none) := aOp_buildS tz_path_Path tp_path_Path
theorem bl_S_string : ∀ (ty : TypeId) (ev : Operand → Value) (g : AMem) (n : Nat) (len : Nat) (parts : Array (Nat × Operand)), len * 1 ≤ 16777216 → aOp Tryd.prog ty ev g n (.buildSlice 65 len parts) = (fillS 1 (zeroRow [.string ByteArray.empty] len) (parts.toList.map fun p => (p.1, ev p.2))).map fun cs => (.slice (some ⟨n, 0, none⟩) len 1, .new (.row cs true)) := fun ty ev g n len parts hb => aOp_buildL tu_S_string tz_string ts_string rfl ty ev g n len parts hb
theorem ap_S_string : ∀ (g : AMem) (n : Nat) (s x : Value), aAppend Tryd.prog g n 65 s x = appR g n 0 16 s (aRead g 1 x) := inst_append tu_S_string ts_string tb_string tv_string rfl
theorem mk_S_string : ∀ (n : Nat) (k k' : IntKind) (l c : Int), aMake Tryd.prog n 65 (.int k l) (.int k' c) = if 0 ≤ l ∧ l ≤ c ∧ c ≤ 70368744177664 ∧ 16 * c.toNat ≤ 70368744177664 then some (.slice (some ⟨n, 0, none⟩) l.toNat 1, .new (.row (zeroRow [.string ByteArray.empty] l.toNat) true)) else none := inst_make tu_S_string ts_string tb_string tv_string rfl rfl
theorem sl_S_string : ∀ (ty : TypeId) (ev : Operand → Value) (g : AMem) (n : Nat) (x : Operand) (lo hi : Option Operand), aOp Tryd.prog ty ev g n (.slice 65 x lo hi none) = (slR 1 (ev x) (lo.map ev) (hi.map ev)).map fun v => (v, .none) := aOp_sliceS tu_S_string ts_string
theorem cp_S_string : ∀ (g : AMem) (d s : Value), aCopy Tryd.prog g 65 d s = cpR g 1 d (aRead g 1 s) := aCopy_eq tu_S_string ts_string
theorem bl_S_uint8 : ∀ (ty : TypeId) (ev : Operand → Value) (g : AMem) (n : Nat) (len : Nat) (parts : Array (Nat × Operand)), len * 1 ≤ 16777216 → aOp Tryd.prog ty ev g n (.buildSlice 93 len parts) = (fillS 1 (zeroRow [.int .u8 0] len) (parts.toList.map fun p => (p.1, ev p.2))).map fun cs => (.slice (some ⟨n, 0, none⟩) len 1, .new (.row cs true)) := fun ty ev g n len parts hb => aOp_buildL tu_S_uint8 tz_uint8 ts_uint8 rfl ty ev g n len parts hb
theorem ap_S_uint8 : ∀ (g : AMem) (n : Nat) (s x : Value), aAppend Tryd.prog g n 93 s x = appR g n 0 1 s (aRead g 1 x) := inst_append tu_S_uint8 ts_uint8 tb_uint8 tv_uint8 rfl
theorem mk_S_uint8 : ∀ (n : Nat) (k k' : IntKind) (l c : Int), aMake Tryd.prog n 93 (.int k l) (.int k' c) = if 0 ≤ l ∧ l ≤ c ∧ c ≤ 70368744177664 ∧ 1 * c.toNat ≤ 70368744177664 then some (.slice (some ⟨n, 0, none⟩) l.toNat 1, .new (.row (zeroRow [.int .u8 0] l.toNat) true)) else none := inst_make tu_S_uint8 ts_uint8 tb_uint8 tv_uint8 rfl rfl
theorem sl_S_uint8 : ∀ (ty : TypeId) (ev : Operand → Value) (g : AMem) (n : Nat) (x : Operand) (lo hi : Option Operand), aOp Tryd.prog ty ev g n (.slice 93 x lo hi none) = (slR 1 (ev x) (lo.map ev) (hi.map ev)).map fun v => (v, .none) := aOp_sliceS tu_S_uint8 ts_uint8
theorem cp_S_uint8 : ∀ (g : AMem) (d s : Value), aCopy Tryd.prog g 93 d s = cpR g 1 d (aRead g 1 s) := aCopy_eq tu_S_uint8 ts_uint8
theorem bs_strings_Builder : ∀ (ty : TypeId) (ev : Operand → Value) (g : AMem) (n : Nat) (parts : Array (Nat × Operand)), aOp Tryd.prog ty ev g n (.build 95 parts) = (fillP [(0, 1), (1, 1)] [.pointer none, .slice none 0 0] (parts.toList.map fun p => (p.1, ev p.2))).map fun cs => (.agg cs.toArray, .none) := aOp_buildS tz_strings_Builder tp_strings_Builder
theorem beq_A24_uint8 : ∀ (xo yo : Operand) (xs ys : List Value), fitsB [.int .u8, .int .u8, .int .u8, .int .u8, .int .u8, .int .u8, .int .u8, .int .u8, .int .u8, .int .u8, .int .u8, .int .u8, .int .u8, .int .u8, .int .u8, .int .u8, .int .u8, .int .u8, .int .u8, .int .u8, .int .u8, .int .u8, .int .u8, .int .u8] xs = true → fitsB [.int .u8, .int .u8, .int .u8, .int .u8, .int .u8, .int .u8, .int .u8, .int .u8, .int .u8, .int .u8, .int .u8, .int .u8, .int .u8, .int .u8, .int .u8, .int .u8, .int .u8, .int .u8, .int .u8, .int .u8, .int .u8, .int .u8, .int .u8, .int .u8] ys = true → aBin Tryd.prog .eql 116 xo yo (.agg xs.toArray) (.agg ys.toArray) = some (.bool (cellsEq xs ys)) := fun _ _ _ _ hx hy => bin_eql_agg te_A24_uint8 ta_A24_uint8 hx hy
theorem bne_A24_uint8 : ∀ (xo yo : Operand) (xs ys : List Value), fitsB [.int .u8, .int .u8, .int .u8, .int .u8, .int .u8, .int .u8, .int .u8, .int .u8, .int .u8, .int .u8, .int .u8, .int .u8, .int .u8, .int .u8, .int .u8, .int .u8, .int .u8, .int .u8, .int .u8, .int .u8, .int .u8, .int .u8, .int .u8, .int .u8] xs = true → fitsB [.int .u8, .int .u8, .int .u8, .int .u8, .int .u8, .int .u8, .int .u8, .int .u8, .int .u8, .int .u8, .int .u8, .int .u8, .int .u8, .int .u8, .int .u8, .int .u8, .int .u8, .int .u8, .int .u8, .int .u8, .int .u8, .int .u8, .int .u8, .int .u8] ys = true → aBin Tryd.prog .neq 116 xo yo (.agg xs.toArray) (.agg ys.toArray) = some (.bool (!cellsEq xs ys)) := fun _ _ _ _ hx hy => bin_neq_agg te_A24_uint8 ta_A24_uint8 hx hy
theorem bs_A24_uint8 : ∀ (ty : TypeId) (ev : Operand → Value) (g : AMem) (n : Nat) (parts : Array (Nat × Operand)), aOp Tryd.prog ty ev g n (.build 116 parts) = (fillS 1 [.int .u8 0, .int .u8 0, .int .u8 0, .int .u8 0, .int .u8 0, .int .u8 0, .int .u8 0, .int .u8 0, .int .u8 0, .int .u8 0, .int .u8 0, .int .u8 0, .int .u8 0, .int .u8 0, .int .u8 0, .int .u8 0, .int .u8 0, .int .u8 0, .int .u8 0, .int .u8 0, .int .u8 0, .int .u8 0, .int .u8 0, .int .u8 0] (parts.toList.map fun p => (p.1, ev p.2))).map fun cs => (.agg cs.toArray, .none) := aOp_buildA tz_A24_uint8 tu_A24_uint8 ts_uint8
theorem ia_A24_uint8 : ∀ (b o : Nat) (i : Int), aIndexAddrR Tryd.prog (some (.array 24 5)) (.pointer (some ⟨b, o, none⟩)) i = if 0 ≤ i ∧ i < (24 : Nat) then some (.pointer (some ⟨b, o + i.toNat * 1, none⟩)) else none := fun b o i => aIndexAddrR_array i ts_uint8
theorem sl_A24_uint8 : ∀ (ty : TypeId) (ev : Operand → Value) (g : AMem) (n : Nat) (x : Operand), aOp Tryd.prog ty ev g n (.slice 116 x none none none) = (saR g 24 1 (ev x)).map fun v => (v, .none) := aOp_sliceA tu_A24_uint8 ts_uint8
theorem beq_A20_uint64 : ∀ (xo yo : Operand) (xs ys : List Value), fitsB [.int .u64, .int .u64, .int .u64, .int .u64, .int .u64, .int .u64, .int .u64, .int .u64, .int .u64, .int .u64, .int .u64, .int .u64, .int .u64, .int .u64, .int .u64, .int .u64, .int .u64, .int .u64, .int .u64, .int .u64] xs = true → fitsB [.int .u64, .int .u64, .int .u64, .int .u64, .int .u64, .int .u64, .int .u64, .int .u64, .int .u64, .int .u64, .int .u64, .int .u64, .int .u64, .int .u64, .int .u64, .int .u64, .int .u64, .int .u64, .int .u64, .int .u64] ys = true → aBin Tryd.prog .eql 135 xo yo (.agg xs.toArray) (.agg ys.toArray) = some (.bool (cellsEq xs ys)) := fun _ _ _ _ hx hy => bin_eql_agg te_A20_uint64 ta_A20_uint64 hx hy
theorem bne_A20_uint64 : ∀ (xo yo : Operand) (xs ys : List Value), fitsB [.int .u64, .int .u64, .int .u64, .int .u64, .int .u64, .int .u64, .int .u64, .int .u64, .int .u64, .int .u64, .int .u64, .int .u64, .int .u64, .int .u64, .int .u64, .int .u64, .int .u64, .int .u64, .int .u64, .int .u64] xs = true → fitsB [.int .u64, .int .u64, .int .u64, .int .u64, .int .u64, .int .u64, .int .u64, .int .u64, .int .u64, .int .u64, .int .u64, .int .u64, .int .u64, .int .u64, .int .u64, .int .u64, .int .u64, .int .u64, .int .u64, .int .u64] ys = true → aBin Tryd.prog .neq 135 xo yo (.agg xs.toArray) (.agg ys.toArray) = some (.bool (!cellsEq xs ys)) := fun _ _ _ _ hx hy => bin_neq_agg te_A20_uint64 ta_A20_uint64 hx hy
theorem bs_A20_uint64 : ∀ (ty : TypeId) (ev : Operand → Value) (g : AMem) (n : Nat) (parts : Array (Nat × Operand)), aOp Tryd.prog ty ev g n (.build 135 parts) = (fillS 1 [.int .u64 0, .int .u64 0, .int .u64 0, .int .u64 0, .int .u64 0, .int .u64 0, .int .u64 0, .int .u64 0, .int .u64 0, .int .u64 0, .int .u64 0, .int .u64 0, .int .u64 0, .int .u64 0, .int .u64 0, .int .u64 0, .int .u64 0, .int .u64 0, .int .u64 0, .int .u64 0] (parts.toList.map fun p => (p.1, ev p.2))).map fun cs => (.agg cs.toArray, .none) := aOp_buildA tz_A20_uint64 tu_A20_uint64 ts_uint64
theorem ia_A20_uint64 : ∀ (b o : Nat) (i : Int), aIndexAddrR Tryd.prog (some (.array 20 27)) (.pointer (some ⟨b, o, none⟩)) i = if 0 ≤ i ∧ i < (20 : Nat) then some (.pointer (some ⟨b, o + i.toNat * 1, none⟩)) else none := fun b o i => aIndexAddrR_array i ts_uint64
theorem sl_A20_uint64 : ∀ (ty : TypeId) (ev : Operand → Value) (g : AMem) (n : Nat) (x : Operand), aOp Tryd.prog ty ev g n (.slice 135 x none none none) = (saR g 20 1 (ev x)).map fun v => (v, .none) := aOp_sliceA tu_A20_uint64 ts_uint64
theorem ia_A65_uint8 : ∀ (b o : Nat) (i : Int), aIndexAddrR Tryd.prog (some (.array 65 5)) (.pointer (some ⟨b, o, none⟩)) i = if 0 ≤ i ∧ i < (65 : Nat) then some (.pointer (some ⟨b, o + i.toNat * 1, none⟩)) else none := fun b o i => aIndexAddrR_array i ts_uint8
theorem sl_A65_uint8 : ∀ (ty : TypeId) (ev : Operand → Value) (g : AMem) (n : Nat) (x : Operand), aOp Tryd.prog ty ev g n (.slice 137 x none none none) = (saR g 65 1 (ev x)).map fun v => (v, .none) := aOp_sliceA tu_A65_uint8 ts_uint8
theorem beq_A32_uint8 : ∀ (xo yo : Operand) (xs ys : List Value), fitsB [.int .u8, .int .u8, .int .u8, .int .u8, .int .u8, .int .u8, .int .u8, .int .u8, .int .u8, .int .u8, .int .u8, .int .u8, .int .u8, .int .u8, .int .u8, .int .u8, .int .u8, .int .u8, .int .u8, .int .u8, .int .u8, .int .u8, .int .u8, .int .u8, .int .u8, .int .u8, .int .u8, .int .u8, .int .u8, .int .u8, .int .u8, .int .u8] xs = true → fitsB [.int .u8, .int .u8, .int .u8, .int .u8, .int .u8, .int .u8, .int .u8, .int .u8, .int .u8, .int .u8, .int .u8, .int .u8, .int .u8, .int .u8, .int .u8, .int .u8, .int .u8, .int .u8, .int .u8, .int .u8, .int .u8, .int .u8, .int .u8, .int .u8, .int .u8, .int .u8, .int .u8, .int .u8, .int .u8, .int .u8, .int .u8, .int .u8] ys = true → aBin Tryd.prog .eql 151 xo yo (.agg xs.toArray) (.agg ys.toArray) = some (.bool (cellsEq xs ys)) := fun _ _ _ _ hx hy => bin_eql_agg te_A32_uint8 ta_A32_uint8 hx hy
theorem bne_A32_uint8 : ∀ (xo yo : Operand) (xs ys : List Value), fitsB [.int .u8, .int .u8, .int .u8, .int .u8, .int .u8, .int .u8, .int .u8, .int .u8, .int .u8, .int .u8, .int .u8, .int .u8, .int .u8, .int .u8, .int .u8, .int .u8, .int .u8, .int .u8, .int .u8, .int .u8, .int .u8, .int .u8, .int .u8, .int .u8, .int .u8, .int .u8, .int .u8, .int .u8, .int .u8, .int .u8, .int .u8, .int .u8] xs = true → fitsB [.int .u8, .int .u8, .int .u8, .int .u8, .int .u8, .int .u8, .int .u8, .int .u8, .int .u8, .int .u8, .int .u8, .int .u8, .int .u8, .int .u8, .int .u8, .int .u8, .int .u8, .int .u8, .int .u8, .int .u8, .int .u8, .int .u8, .int .u8, .int .u8, .int .u8, .int .u8, .int .u8, .int .u8, .int .u8, .int .u8, .int .u8, .int .u8] ys = true → aBin Tryd.prog .neq 151 xo yo (.agg xs.toArray) (.agg ys.toArray) = some (.bool (!cellsEq xs ys)) := fun _ _ _ _ hx hy => bin_neq_agg te_A32_uint8 ta_A32_uint8 hx hy
theorem bs_A32_uint8 : ∀ (ty : TypeId) (ev : Operand → Value) (g : AMem) (n : Nat) (parts : Array (Nat × Operand)), aOp Tryd.prog ty ev g n (.build 151 parts) = (fillS 1 [.int .u8 0, .int .u8 0, .int .u8 0, .int .u8 0, .int .u8 0, .int .u8 0, .int .u8 0, .int .u8 0, .int .u8 0, .int .u8 0, .int .u8 0, .int .u8 0, .int .u8 0, .int .u8 0, .int .u8 0, .int .u8 0, .int .u8 0, .int .u8 0, .int .u8 0, .int .u8 0, .int .u8 0, .int .u8 0, .int .u8 0, .int .u8 0, .int .u8 0, .int .u8 0, .int .u8 0, .int .u8 0, .int .u8 0, .int .u8 0, .int .u8 0, .int .u8 0] (parts.toList.map fun p => (p.1, ev p.2))).map fun cs => (.agg cs.toArray, .none) := aOp_buildA tz_A32_uint8 tu_A32_uint8 ts_uint8
theorem ia_A32_uint8 : ∀ (b o : Nat) (i : Int), aIndexAddrR Tryd.prog (some (.array 32 5)) (.pointer (some ⟨b, o, none⟩)) i = if 0 ≤ i ∧ i < (32 : Nat) then some (.pointer (some ⟨b, o + i.toNat * 1, none⟩)) else none := fun b o i => aIndexAddrR_array i ts_uint8
theorem sl_A32_uint8 : ∀ (ty : TypeId) (ev : Operand → Value) (g : AMem) (n : Nat) (x : Operand), aOp Tryd.prog ty ev g n (.slice 151 x none none none) = (saR g 32 1 (ev x)).map fun v => (v, .none) := aOp_sliceA tu_A32_uint8 ts_uint8
theorem ia_A64_uint8 : ∀ (b o : Nat) (i : Int), aIndexAddrR Tryd.prog (some (.array 64 5)) (.pointer (some ⟨b, o, none⟩)) i = if 0 ≤ i ∧ i < (64 : Nat) then some (.pointer (some ⟨b, o + i.toNat * 1, none⟩)) else none := fun b o i => aIndexAddrR_array i ts_uint8
theorem sl_A64_uint8 : ∀ (ty : TypeId) (ev : Operand → Value) (g : AMem) (n : Nat) (x : Operand), aOp Tryd.prog ty ev g n (.slice 152 x none none none) = (saR g 64 1 (ev x)).map fun v => (v, .none) := aOp_sliceA tu_A64_uint8 ts_uint8
theorem q_int64 : (tsize Tryd.prog 2 = some 1) ∧ (tagg Tryd.prog 2 = some false) ∧ (zeroFlat Tryd.prog 2 = some [.int .i64 0]) ∧ (Tryd.prog.underlying 2 = some (.int .i64)) := ⟨ts_int64, ta_int64, tz_int64, tu_int64⟩
theorem q_int : (tsize Tryd.prog 3 = some 1) ∧ (tagg Tryd.prog 3 = some false) ∧ (zeroFlat Tryd.prog 3 = some [.int .i64 0]) ∧ (Tryd.prog.underlying 3 = some (.int .i64)) := ⟨ts_int, ta_int, tz_int, tu_int⟩
theorem q_bool : (tsize Tryd.prog 4 = some 1) ∧ (tagg Tryd.prog 4 = some false) ∧ (zeroFlat Tryd.prog 4 = some [.bool false]) ∧ (Tryd.prog.underlying 4 = some (.bool)) := ⟨ts_bool, ta_bool, tz_bool, tu_bool⟩
theorem q_uint8 : (tsize Tryd.prog 5 = some 1) ∧ (tagg Tryd.prog 5 = some false) ∧ (zeroFlat Tryd.prog 5 = some [.int .u8 0]) ∧ (Tryd.prog.underlying 5 = some (.int .u8)) := ⟨ts_uint8, ta_uint8, tz_uint8, tu_uint8⟩
theorem q_string : (tsize Tryd.prog 9 = some 1) ∧ (tagg Tryd.prog 9 = some false) ∧ (zeroFlat Tryd.prog 9 = some [.string ByteArray.empty]) ∧ (Tryd.prog.underlying 9 = some (.string)) := ⟨ts_string, ta_string, tz_string, tu_string⟩
theorem q_interface : (tsize Tryd.prog 20 = some 1) ∧ (tagg Tryd.prog 20 = some false) ∧ (zeroFlat Tryd.prog 20 = some [.nilIface]) := ⟨ts_interface, ta_interface, tz_interface⟩
theorem q_S_int : (tsize Tryd.prog 22 = some 1) ∧ (tagg Tryd.prog 22 = some false) ∧ (zeroFlat Tryd.prog 22 = some [.slice none 0 0]) ∧ (Tryd.prog.underlying 22 = some (.slice 3)) ∧ (∀ (ty : TypeId) (ev : Operand → Value) (g : AMem) (n : Nat) (len : Nat) (parts : Array (Nat × Operand)), len * 1 ≤ 16777216 → aOp Tryd.prog ty ev g n (.buildSlice 22 len parts) = (fillS 1 (zeroRow [.int .i64 0] len) (parts.toList.map fun p => (p.1, ev p.2))).map fun cs => (.slice (some ⟨n, 0, none⟩) len 1, .new (.row cs true))) ∧ (∀ (g : AMem) (n : Nat) (s x : Value), aAppend Tryd.prog g n 22 s x = appR g n 0 8 s (aRead g 1 x)) ∧ (∀ (n : Nat) (k k' : IntKind) (l c : Int), aMake Tryd.prog n 22 (.int k l) (.int k' c) = if 0 ≤ l ∧ l ≤ c ∧ c ≤ 70368744177664 ∧ 8 * c.toNat ≤ 70368744177664 then some (.slice (some ⟨n, 0, none⟩) l.toNat 1, .new (.row (zeroRow [.int .i64 0] l.toNat) true)) else none) ∧ (∀ (ty : TypeId) (ev : Operand → Value) (g : AMem) (n : Nat) (x : Operand) (lo hi : Option Operand), aOp Tryd.prog ty ev g n (.slice 22 x lo hi none) = (slR 1 (ev x) (lo.map ev) (hi.map ev)).map fun v => (v, .none)) ∧ (∀ (g : AMem) (d s : Value), aCopy Tryd.prog g 22 d s = cpR g 1 d (aRead g 1 s)) := ⟨ts_S_int, ta_S_int, tz_S_int, tu_S_int, bl_S_int, ap_S_int, mk_S_int, sl_S_int, cp_S_int⟩
theorem q_path_Path : (tsize Tryd.prog 25 = some 1) ∧ (tagg Tryd.prog 25 = some true) ∧ (zeroFlat Tryd.prog 25 = some [.slice none 0 0]) ∧ (tplaces Tryd.prog 25 = some [(0, 1)]) ∧ (tfield Tryd.prog 25 0 = some (22, 0)) ∧ (tfield' Tryd.prog 25 0 = some (22, 0)) ∧ (∀ (ty : TypeId) (ev : Operand → Value) (g : AMem) (n : Nat) (parts : Array (Nat × Operand)), aOp Tryd.prog ty ev g n (.build 25 parts) = (fillP [(0, 1)] [.slice none 0 0] (parts.toList.map fun p => (p.1, ev p.2))).map fun cs => (.agg cs.toArray, .none)) := ⟨ts_path_Path, ta_path_Path, tz_path_Path, tp_path_Path, tf_path_Path_L, tg_path_Path_L, bs_path_Path⟩
theorem q_uint64 : (tsize Tryd.prog 27 = some 1) ∧ (tagg Tryd.prog 27 = some false) ∧ (zeroFlat Tryd.prog 27 = some [.int .u64 0]) ∧ (Tryd.prog.underlying 27 = some (.int .u64)) := ⟨ts_uint64, ta_uint64, tz_uint64, tu_uint64⟩
theorem q_S_string : (tsize Tryd.prog 65 = some 1) ∧ (tagg Tryd.prog 65 = some false) ∧ (zeroFlat Tryd.prog 65 = some [.slice none 0 0]) ∧ (Tryd.prog.underlying 65 = some (.slice 9)) ∧ (∀ (ty : TypeId) (ev : Operand → Value) (g : AMem) (n : Nat) (len : Nat) (parts : Array (Nat × Operand)), len * 1 ≤ 16777216 → aOp Tryd.prog ty ev g n (.buildSlice 65 len parts) = (fillS 1 (zeroRow [.string ByteArray.empty] len) (parts.toList.map fun p => (p.1, ev p.2))).map fun cs => (.slice (some ⟨n, 0, none⟩) len 1, .new (.row cs true))) ∧ (∀ (g : AMem) (n : Nat) (s x : Value), aAppend Tryd.prog g n 65 s x = appR g n 0 16 s (aRead g 1 x)) ∧ (∀ (n : Nat) (k k' : IntKind) (l c : Int), aMake Tryd.prog n 65 (.int k l) (.int k' c) = if 0 ≤ l ∧ l ≤ c ∧ c ≤ 70368744177664 ∧ 16 * c.toNat ≤ 70368744177664 then some (.slice (some ⟨n, 0, none⟩) l.toNat 1, .new (.row (zeroRow [.string ByteArray.empty] l.toNat) true)) else none) ∧ (∀ (ty : TypeId) (ev : Operand → Value) (g : AMem) (n : Nat) (x : Operand) (lo hi : Option Operand), aOp Tryd.prog ty ev g n (.slice 65 x lo hi none) = (slR 1 (ev x) (lo.map ev) (hi.map ev)).map fun v => (v, .none)) ∧ (∀ (g : AMem) (d s : Value), aCopy Tryd.prog g 65 d s = cpR g 1 d (aRead g 1 s)) := ⟨ts_S_string, ta_S_string, tz_S_string, tu_S_string, bl_S_string, ap_S_string, mk_S_string, sl_S_string, cp_S_string⟩
theorem q_uint : (tsize Tryd.prog 85 = some 1) ∧ (tagg Tryd.prog 85 = some false) ∧ (zeroFlat Tryd.prog 85 = some [.int .u64 0]) ∧ (Tryd.prog.underlying 85 = some (.int .u64)) := ⟨ts_uint, ta_uint, tz_uint, tu_uint⟩
theorem q_error : (tsize Tryd.prog 88 = some 1) ∧ (tagg Tryd.prog 88 = some false) ∧ (zeroFlat Tryd.prog 88 = some [.nilIface]) := ⟨ts_error, ta_error, tz_error⟩
theorem q_P_strings_Builder : (tsize Tryd.prog 92 = some 1) ∧ (tagg Tryd.prog 92 = some false) ∧ (zeroFlat Tryd.prog 92 = some [.pointer none]) ∧ (Tryd.prog.underlying 92 = some (.pointer 95)) := ⟨ts_P_strings_Builder, ta_P_strings_Builder, tz_P_strings_Builder, tu_P_strings_Builder⟩
theorem q_S_uint8 : (tsize Tryd.prog 93 = some 1) ∧ (tagg Tryd.prog 93 = some false) ∧ (zeroFlat Tryd.prog 93 = some [.slice none 0 0]) ∧ (Tryd.prog.underlying 93 = some (.slice 5)) ∧ (∀ (ty : TypeId) (ev : Operand → Value) (g : AMem) (n : Nat) (len : Nat) (parts : Array (Nat × Operand)), len * 1 ≤ 16777216 → aOp Tryd.prog ty ev g n (.buildSlice 93 len parts) = (fillS 1 (zeroRow [.int .u8 0] len) (parts.toList.map fun p => (p.1, ev p.2))).map fun cs => (.slice (some ⟨n, 0, none⟩) len 1, .new (.row cs true))) ∧ (∀ (g : AMem) (n : Nat) (s x : Value), aAppend Tryd.prog g n 93 s x = appR g n 0 1 s (aRead g 1 x)) ∧ (∀ (n : Nat) (k k' : IntKind) (l c : Int), aMake Tryd.prog n 93 (.int k l) (.int k' c) = if 0 ≤ l ∧ l ≤ c ∧ c ≤ 70368744177664 ∧ 1 * c.toNat ≤ 70368744177664 then some (.slice (some ⟨n, 0, none⟩) l.toNat 1, .new (.row (zeroRow [.int .u8 0] l.toNat) true)) else none) ∧ (∀ (ty : TypeId) (ev : Operand → Value) (g : AMem) (n : Nat) (x : Operand) (lo hi : Option Operand), aOp Tryd.prog ty ev g n (.slice 93 x lo hi none) = (slR 1 (ev x) (lo.map ev) (hi.map ev)).map fun v => (v, .none)) ∧ (∀ (g : AMem) (d s : Value), aCopy Tryd.prog g 93 d s = cpR g 1 d (aRead g 1 s)) := ⟨ts_S_uint8, ta_S_uint8, tz_S_uint8, tu_S_uint8, bl_S_uint8, ap_S_uint8, mk_S_uint8, sl_S_uint8, cp_S_uint8⟩
theorem q_strings_Builder : (tsize Tryd.prog 95 = some 2) ∧ (tagg Tryd.prog 95 = some true) ∧ (zeroFlat Tryd.prog 95 = some [.pointer none, .slice none 0 0]) ∧ (tplaces Tryd.prog 95 = some [(0, 1), (1, 1)]) ∧ (tfield Tryd.prog 95 0 = some (92, 0)) ∧ (tfield' Tryd.prog 95 0 = some (92, 0)) ∧ (tfield Tryd.prog 95 1 = some (93, 1)) ∧ (tfield' Tryd.prog 95 1 = some (93, 1)) ∧ (∀ (ty : TypeId) (ev : Operand → Value) (g : AMem) (n : Nat) (parts : Array (Nat × Operand)), aOp Tryd.prog ty ev g n (.build 95 parts) = (fillP [(0, 1), (1, 1)] [.pointer none, .slice none 0 0] (parts.toList.map fun p => (p.1, ev p.2))).map fun cs => (.agg cs.toArray, .none)) := ⟨ts_strings_Builder, ta_strings_Builder, tz_strings_Builder, tp_strings_Builder, tf_strings_Builder_addr, tg_strings_Builder_addr, tf_strings_Builder_buf, tg_strings_Builder_buf, bs_strings_Builder⟩
theorem q_P_uint8 : (tsize Tryd.prog 107 = some 1) ∧ (tagg Tryd.prog 107 = some false) ∧ (zeroFlat Tryd.prog 107 = some [.pointer none]) ∧ (Tryd.prog.underlying 107 = some (.pointer 5)) := ⟨ts_P_uint8, ta_P_uint8, tz_P_uint8, tu_P_uint8⟩
theorem q_A24_uint8 : (tsize Tryd.prog 116 = some 24) ∧ (tagg Tryd.prog 116 = some true) ∧ (zeroFlat Tryd.prog 116 = some [.int .u8 0, .int .u8 0, .int .u8 0, .int .u8 0, .int .u8 0, .int .u8 0, .int .u8 0, .int .u8 0, .int .u8 0, .int .u8 0, .int .u8 0, .int .u8 0, .int .u8 0, .int .u8 0, .int .u8 0, .int .u8 0, .int .u8 0, .int .u8 0, .int .u8 0, .int .u8 0, .int .u8 0, .int .u8 0, .int .u8 0, .int .u8 0]) ∧ (Tryd.prog.underlying 116 = some (.array 24 5)) ∧ (∀ (ty : TypeId) (ev : Operand → Value) (g : AMem) (n : Nat) (parts : Array (Nat × Operand)), aOp Tryd.prog ty ev g n (.build 116 parts) = (fillS 1 [.int .u8 0, .int .u8 0, .int .u8 0, .int .u8 0, .int .u8 0, .int .u8 0, .int .u8 0, .int .u8 0, .int .u8 0, .int .u8 0, .int .u8 0, .int .u8 0, .int .u8 0, .int .u8 0, .int .u8 0, .int .u8 0, .int .u8 0, .int .u8 0, .int .u8 0, .int .u8 0, .int .u8 0, .int .u8 0, .int .u8 0, .int .u8 0] (parts.toList.map fun p => (p.1, ev p.2))).map fun cs => (.agg cs.toArray, .none)) ∧ (∀ (b o : Nat) (i : Int), aIndexAddrR Tryd.prog (some (.array 24 5)) (.pointer (some ⟨b, o, none⟩)) i = if 0 ≤ i ∧ i < (24 : Nat) then some (.pointer (some ⟨b, o + i.toNat * 1, none⟩)) else none) ∧ (∀ (ty : TypeId) (ev : Operand → Value) (g : AMem) (n : Nat) (x : Operand), aOp Tryd.prog ty ev g n (.slice 116 x none none none) = (saR g 24 1 (ev x)).map fun v => (v, .none)) := ⟨ts_A24_uint8, ta_A24_uint8, tz_A24_uint8, tu_A24_uint8, bs_A24_uint8, ia_A24_uint8, sl_A24_uint8⟩
theorem q_A20_uint64 : (tsize Tryd.prog 135 = some 20) ∧ (tagg Tryd.prog 135 = some true) ∧ (zeroFlat Tryd.prog 135 = some [.int .u64 0, .int .u64 0, .int .u64 0, .int .u64 0, .int .u64 0, .int .u64 0, .int .u64 0, .int .u64 0, .int .u64 0, .int .u64 0, .int .u64 0, .int .u64 0, .int .u64 0, .int .u64 0, .int .u64 0, .int .u64 0, .int .u64 0, .int .u64 0, .int .u64 0, .int .u64 0]) ∧ (Tryd.prog.underlying 135 = some (.array 20 27)) ∧ (∀ (ty : TypeId) (ev : Operand → Value) (g : AMem) (n : Nat) (parts : Array (Nat × Operand)), aOp Tryd.prog ty ev g n (.build 135 parts) = (fillS 1 [.int .u64 0, .int .u64 0, .int .u64 0, .int .u64 0, .int .u64 0, .int .u64 0, .int .u64 0, .int .u64 0, .int .u64 0, .int .u64 0, .int .u64 0, .int .u64 0, .int .u64 0, .int .u64 0, .int .u64 0, .int .u64 0, .int .u64 0, .int .u64 0, .int .u64 0, .int .u64 0] (parts.toList.map fun p => (p.1, ev p.2))).map fun cs => (.agg cs.toArray, .none)) ∧ (∀ (b o : Nat) (i : Int), aIndexAddrR Tryd.prog (some (.array 20 27)) (.pointer (some ⟨b, o, none⟩)) i = if 0 ≤ i ∧ i < (20 : Nat) then some (.pointer (some ⟨b, o + i.toNat * 1, none⟩)) else none) ∧ (∀ (ty : TypeId) (ev : Operand → Value) (g : AMem) (n : Nat) (x : Operand), aOp Tryd.prog ty ev g n (.slice 135 x none none none) = (saR g 20 1 (ev x)).map fun v => (v, .none)) := ⟨ts_A20_uint64, ta_A20_uint64, tz_A20_uint64, tu_A20_uint64, bs_A20_uint64, ia_A20_uint64, sl_A20_uint64⟩
theorem q_uint32 : (tsize Tryd.prog 136 = some 1) ∧ (tagg Tryd.prog 136 = some false) ∧ (zeroFlat Tryd.prog 136 = some [.int .u32 0]) ∧ (Tryd.prog.underlying 136 = some (.int .u32)) := ⟨ts_uint32, ta_uint32, tz_uint32, tu_uint32⟩
theorem q_A65_uint8 : (tsize Tryd.prog 137 = some 65) ∧ (tagg Tryd.prog 137 = some true) ∧ (Tryd.prog.underlying 137 = some (.array 65 5)) ∧ (∀ (b o : Nat) (i : Int), aIndexAddrR Tryd.prog (some (.array 65 5)) (.pointer (some ⟨b, o, none⟩)) i = if 0 ≤ i ∧ i < (65 : Nat) then some (.pointer (some ⟨b, o + i.toNat * 1, none⟩)) else none) ∧ (∀ (ty : TypeId) (ev : Operand → Value) (g : AMem) (n : Nat) (x : Operand), aOp Tryd.prog ty ev g n (.slice 137 x none none none) = (saR g 65 1 (ev x)).map fun v => (v, .none)) := ⟨ts_A65_uint8, ta_A65_uint8, tu_A65_uint8, ia_A65_uint8, sl_A65_uint8⟩
theorem q_A32_uint8 : (tsize Tryd.prog 151 = some 32) ∧ (tagg Tryd.prog 151 = some true) ∧ (zeroFlat Tryd.prog 151 = some [.int .u8 0, .int .u8 0, .int .u8 0, .int .u8 0, .int .u8 0, .int .u8 0, .int .u8 0, .int .u8 0, .int .u8 0, .int .u8 0, .int .u8 0, .int .u8 0, .int .u8 0, .int .u8 0, .int .u8 0, .int .u8 0, .int .u8 0, .int .u8 0, .int .u8 0, .int .u8 0, .int .u8 0, .int .u8 0, .int .u8 0, .int .u8 0, .int .u8 0, .int .u8 0, .int .u8 0, .int .u8 0, .int .u8 0, .int .u8 0, .int .u8 0, .int .u8 0]) ∧ (Tryd.prog.underlying 151 = some (.array 32 5)) ∧ (∀ (ty : TypeId) (ev : Operand → Value) (g : AMem) (n : Nat) (parts : Array (Nat × Operand)), aOp Tryd.prog ty ev g n (.build 151 parts) = (fillS 1 [.int .u8 0, .int .u8 0, .int .u8 0, .int .u8 0, .int .u8 0, .int .u8 0, .int .u8 0, .int .u8 0, .int .u8 0, .int .u8 0, .int .u8 0, .int .u8 0, .int .u8 0, .int .u8 0, .int .u8 0, .int .u8 0, .int .u8 0, .int .u8 0, .int .u8 0, .int .u8 0, .int .u8 0, .int .u8 0, .int .u8 0, .int .u8 0, .int .u8 0, .int .u8 0, .int .u8 0, .int .u8 0, .int .u8 0, .int .u8 0, .int .u8 0, .int .u8 0] (parts.toList.map fun p => (p.1, ev p.2))).map fun cs => (.agg cs.toArray, .none)) ∧ (∀ (b o : Nat) (i : Int), aIndexAddrR Tryd.prog (some (.array 32 5)) (.pointer (some ⟨b, o, none⟩)) i = if 0 ≤ i ∧ i < (32 : Nat) then some (.pointer (some ⟨b, o + i.toNat * 1, none⟩)) else none) ∧ (∀ (ty : TypeId) (ev : Operand → Value) (g : AMem) (n : Nat) (x : Operand), aOp Tryd.prog ty ev g n (.slice 151 x none none none) = (saR g 32 1 (ev x)).map fun v => (v, .none)) := ⟨ts_A32_uint8, ta_A32_uint8, tz_A32_uint8, tu_A32_uint8, bs_A32_uint8, ia_A32_uint8, sl_A32_uint8⟩
theorem q_A64_uint8 : (tsize Tryd.prog 152 = some 64) ∧ (tagg Tryd.prog 152 = some true) ∧ (Tryd.prog.underlying 152 = some (.array 64 5)) ∧ (∀ (b o : Nat) (i : Int), aIndexAddrR Tryd.prog (some (.array 64 5)) (.pointer (some ⟨b, o, none⟩)) i = if 0 ≤ i ∧ i < (64 : Nat) then some (.pointer (some ⟨b, o + i.toNat * 1, none⟩)) else none) ∧ (∀ (ty : TypeId) (ev : Operand → Value) (g : AMem) (n : Nat) (x : Operand), aOp Tryd.prog ty ev g n (.slice 152 x none none none) = (saR g 64 1 (ev x)).map fun v => (v, .none)) := ⟨ts_A64_uint8, ta_A64_uint8, tu_A64_uint8, ia_A64_uint8, sl_A64_uint8⟩
/-- reeve/reevelaw9.PathOne -/
abbrev f_reevelaw9_PathOne : FuncId := 3
def rc_reevelaw9_PathOne : RCode :=
  (.seq
    (.region [⟨some 4, .none, true, 4, .assign (.const (.bool false))⟩])
  (.keep [0, 1]
  (.seq
    (.seq
      (.region [⟨some 11, .none, true, 4, .call { callee := .value (.func 12), args := #[], argTypes := #[] }⟩,
        ⟨some 12, .none, true, 4, .unOp .not 4 (.tmp 11)⟩])
    (.keep [0, 1, 12]
    (.cond (.tmp 12)
      (.seq
        (.region [⟨some 4, .none, true, 4, .assign (.const (.bool false))⟩])
      .ret)
      .skip)))
  (.seq
    (.region [⟨some 13, .none, true, 22, .move (.tmp 0)⟩,
      ⟨some 14, .none, true, 25, .build 25 #[(0, .tmp 13)]⟩,
      ⟨some 15, .none, true, 22, .move (.tmp 1)⟩,
      ⟨some 16, .none, true, 25, .build 25 #[(0, .tmp 15)]⟩,
      ⟨some 5, .none, true, 0, .alloc 25⟩,
      ⟨some 6, .none, true, 0, .alloc 25⟩,
      ⟨none, .none, true, 0, .store 25 (.tmp 5) (.tmp 14)⟩,
      ⟨none, .none, true, 0, .store 25 (.tmp 6) (.tmp 16)⟩])
  (.keep [0, 1, 5, 6]
  (.seq
    (.seq
      (.region [⟨some 17, .none, true, 22, .move (.tmp 0)⟩,
        ⟨some 18, .none, true, 3, .call { callee := .builtin .len, args := #[.tmp 17], argTypes := #[22] }⟩,
        ⟨some 19, .none, true, 4, .binOp .gtr 3 (.tmp 18) (.const (.int .i64 9)) 3⟩,
        ⟨some 20, .none, true, 4, .move (.tmp 19)⟩,
        ⟨some 21, .some 20 false, true, 22, .move (.tmp 1)⟩,
        ⟨some 22, .some 20 false, true, 3, .call { callee := .builtin .len, args := #[.tmp 21], argTypes := #[22] }⟩,
        ⟨some 23, .some 20 false, true, 4, .binOp .gtr 3 (.tmp 22) (.const (.int .i64 9)) 3⟩,
        ⟨some 24, .none, true, 4, .pick (.tmp 20) (.const (.bool true)) (.tmp 23)⟩,
        ⟨some 25, .none, true, 4, .move (.tmp 24)⟩,
        ⟨some 26, .some 25 false, true, 25, .load 25 (.tmp 5)⟩,
        ⟨some 27, .some 25 false, true, 4, .call { callee := .value (.func 13), args := #[.tmp 26], argTypes := #[25] }⟩,
        ⟨some 28, .some 25 false, true, 4, .unOp .not 4 (.tmp 27)⟩,
        ⟨some 29, .none, true, 4, .pick (.tmp 25) (.const (.bool true)) (.tmp 28)⟩,
        ⟨some 30, .none, true, 4, .move (.tmp 29)⟩,
        ⟨some 31, .some 30 false, true, 25, .load 25 (.tmp 6)⟩,
        ⟨some 32, .some 30 false, true, 4, .call { callee := .value (.func 13), args := #[.tmp 31], argTypes := #[25] }⟩,
        ⟨some 33, .some 30 false, true, 4, .unOp .not 4 (.tmp 32)⟩,
        ⟨some 34, .none, true, 4, .pick (.tmp 30) (.const (.bool true)) (.tmp 33)⟩])
    (.keep [0, 1, 5, 6, 34]
    (.cond (.tmp 34)
      (.seq
        (.region [⟨some 4, .none, true, 4, .assign (.const (.bool true))⟩])
      .ret)
      .skip)))
  (.seq
    (.region [⟨some 36, .none, true, 25, .load 25 (.tmp 5)⟩,
      ⟨some 37, .none, true, 28, .call { callee := .value (.func 14), args := #[.tmp 36], argTypes := #[25] }⟩,
      ⟨some 35, .none, true, 28, .move (.tmp 37)⟩,
      ⟨some 38, .none, true, 27, .extract (.tmp 35) 0⟩,
      ⟨some 39, .none, true, 4, .extract (.tmp 35) 1⟩,
      ⟨some 7, .none, true, 27, .assign (.tmp 38)⟩,
      ⟨some 8, .none, true, 4, .assign (.tmp 39)⟩])
  (.keep [0, 1, 5, 6, 7]
  (.seq
    (.region [⟨some 41, .none, true, 25, .load 25 (.tmp 6)⟩,
      ⟨some 42, .none, true, 28, .call { callee := .value (.func 14), args := #[.tmp 41], argTypes := #[25] }⟩,
      ⟨some 40, .none, true, 28, .move (.tmp 42)⟩,
      ⟨some 43, .none, true, 27, .extract (.tmp 40) 0⟩,
      ⟨some 44, .none, true, 4, .extract (.tmp 40) 1⟩,
      ⟨some 9, .none, true, 27, .assign (.tmp 43)⟩,
      ⟨some 10, .none, true, 4, .assign (.tmp 44)⟩])
  (.keep [0, 1, 5, 6, 7, 9]
  (.seq
    (.region [⟨some 45, .none, false, 27, .move (.tmp 7)⟩,
      ⟨some 46, .none, false, 27, .move (.tmp 9)⟩,
      ⟨some 47, .none, false, 4, .binOp .eql 27 (.tmp 45) (.tmp 46) 27⟩,
      ⟨some 48, .none, true, 22, .move (.tmp 0)⟩,
      ⟨some 49, .none, true, 22, .move (.tmp 1)⟩,
      ⟨some 50, .none, true, 4, .call { callee := .value (.func 15), args := #[.tmp 48, .tmp 49], argTypes := #[22, 22] }⟩,
      ⟨some 51, .none, true, 4, .binOp .eql 4 (.tmp 47) (.tmp 50) 4⟩,
      ⟨some 52, .none, true, 4, .move (.tmp 51)⟩,
      ⟨some 53, .some 52 true, false, 25, .load 25 (.tmp 5)⟩,
      ⟨some 54, .some 52 true, false, 9, .call { callee := .value (.func 16), args := #[.tmp 53], argTypes := #[25] }⟩,
      ⟨some 55, .some 52 true, false, 25, .load 25 (.tmp 6)⟩,
      ⟨some 56, .some 52 true, true, 9, .call { callee := .value (.func 16), args := #[.tmp 55], argTypes := #[25] }⟩,
      ⟨some 57, .some 52 true, false, 4, .binOp .eql 9 (.tmp 54) (.tmp 56) 9⟩,
      ⟨some 58, .some 52 true, false, 22, .move (.tmp 0)⟩,
      ⟨some 59, .some 52 true, false, 22, .move (.tmp 1)⟩,
      ⟨some 60, .some 52 true, true, 4, .call { callee := .value (.func 15), args := #[.tmp 58, .tmp 59], argTypes := #[22, 22] }⟩,
      ⟨some 61, .some 52 true, true, 4, .binOp .eql 4 (.tmp 57) (.tmp 60) 4⟩,
      ⟨some 62, .none, true, 4, .pick (.tmp 52) (.tmp 61) (.const (.bool false))⟩,
      ⟨some 63, .none, true, 4, .move (.tmp 62)⟩,
      ⟨some 64, .some 63 true, false, 25, .load 25 (.tmp 5)⟩,
      ⟨some 65, .some 63 true, false, 25, .load 25 (.tmp 6)⟩,
      ⟨some 66, .some 63 true, true, 4, .call { callee := .value (.func 17), args := #[.tmp 64, .tmp 65], argTypes := #[25, 25] }⟩,
      ⟨some 67, .some 63 true, true, 4, .move (.tmp 66)⟩,
      ⟨some 68, .some 67 true, false, 25, .load 25 (.tmp 6)⟩,
      ⟨some 69, .some 67 true, false, 25, .load 25 (.tmp 5)⟩,
      ⟨some 70, .some 67 true, true, 4, .call { callee := .value (.func 17), args := #[.tmp 68, .tmp 69], argTypes := #[25, 25] }⟩,
      ⟨some 71, .some 63 true, false, 4, .pick (.tmp 67) (.tmp 70) (.const (.bool false))⟩,
      ⟨some 72, .some 63 true, false, 22, .move (.tmp 0)⟩,
      ⟨some 73, .some 63 true, false, 22, .move (.tmp 1)⟩,
      ⟨some 74, .some 63 true, true, 4, .call { callee := .value (.func 15), args := #[.tmp 72, .tmp 73], argTypes := #[22, 22] }⟩,
      ⟨some 75, .some 63 true, true, 4, .binOp .eql 4 (.tmp 71) (.tmp 74) 4⟩,
      ⟨some 76, .none, true, 4, .pick (.tmp 63) (.tmp 75) (.const (.bool false))⟩,
      ⟨some 4, .none, true, 4, .assign (.tmp 76)⟩])
  .ret)))))))))))
theorem t_reevelaw9_PathOne : FnT Tryd.prog f_reevelaw9_PathOne rc_reevelaw9_PathOne [.tmp 4] 2 := ⟨⟨[], Tryd.f3, _, Tryd.func3, rfl, by kernel_rfl, by kernel_rfl, by kernel_rfl, rfl, by decide⟩, by kernel_rfl⟩
/-- reeve/reevelaw9.awake -/
abbrev f_reevelaw9_awake : FuncId := 12
def rc_reevelaw9_awake : RCode :=
  (.seq
    (.region [⟨some 0, .none, true, 4, .assign (.const (.bool false))⟩])
  (.keep []
  (.seq
    (.region [⟨some 4, .none, true, 22, .buildSlice 22 2 #[(0, .const (.int .i64 1)), (1, .const (.int .i64 12))]⟩,
      ⟨some 5, .none, true, 25, .build 25 #[(0, .tmp 4)]⟩,
      ⟨some 1, .none, true, 0, .alloc 25⟩,
      ⟨none, .none, true, 0, .store 25 (.tmp 1) (.tmp 5)⟩])
  (.keep [1]
  (.seq
    (.region [⟨some 7, .none, true, 25, .load 25 (.tmp 1)⟩,
      ⟨some 8, .none, true, 28, .call { callee := .value (.func 14), args := #[.tmp 7], argTypes := #[25] }⟩,
      ⟨some 6, .none, true, 28, .move (.tmp 8)⟩,
      ⟨some 9, .none, true, 27, .extract (.tmp 6) 0⟩,
      ⟨some 10, .none, true, 4, .extract (.tmp 6) 1⟩,
      ⟨some 2, .none, true, 27, .assign (.tmp 9)⟩,
      ⟨some 3, .none, true, 4, .assign (.tmp 10)⟩])
  (.keep [1, 2, 3]
  (.seq
    (.region [⟨some 11, .none, true, 25, .load 25 (.tmp 1)⟩,
      ⟨some 12, .none, true, 9, .call { callee := .value (.func 16), args := #[.tmp 11], argTypes := #[25] }⟩,
      ⟨some 13, .none, true, 4, .binOp .eql 9 (.tmp 12) (.const (.string { data := #[49, 46, 49, 50] })) 9⟩,
      ⟨some 14, .none, true, 4, .move (.tmp 13)⟩,
      ⟨some 15, .some 14 true, true, 4, .move (.tmp 3)⟩,
      ⟨some 16, .none, true, 4, .pick (.tmp 14) (.tmp 15) (.const (.bool false))⟩,
      ⟨some 17, .none, true, 4, .move (.tmp 16)⟩,
      ⟨some 18, .some 17 true, true, 27, .move (.tmp 2)⟩,
      ⟨some 19, .some 17 true, true, 4, .binOp .eql 27 (.tmp 18) (.const (.int .u64 3090)) 27⟩,
      ⟨some 20, .none, true, 4, .pick (.tmp 17) (.tmp 19) (.const (.bool false))⟩,
      ⟨some 21, .none, true, 4, .move (.tmp 20)⟩,
      ⟨some 22, .some 21 true, true, 25, .load 25 (.tmp 1)⟩,
      ⟨some 23, .some 21 true, true, 4, .call { callee := .value (.func 13), args := #[.tmp 22], argTypes := #[25] }⟩,
      ⟨some 24, .none, true, 4, .pick (.tmp 21) (.tmp 23) (.const (.bool false))⟩,
      ⟨some 0, .none, true, 4, .assign (.tmp 24)⟩])
  .ret)))))))
theorem t_reevelaw9_awake : FnT Tryd.prog f_reevelaw9_awake rc_reevelaw9_awake [.tmp 0] 0 := ⟨⟨[], Tryd.f12, _, Tryd.func12, rfl, by kernel_rfl, by kernel_rfl, by kernel_rfl, rfl, by decide⟩, by kernel_rfl⟩
/-- reeve/path.Good -/
abbrev f_path_Good : FuncId := 13
def rc_path_Good : RCode :=
  (.seq
    (.region [⟨some 1, .none, true, 0, .box 25 (.tmp 0)⟩,
      ⟨some 2, .none, true, 4, .assign (.const (.bool false))⟩])
  (.keep [1]
  (.seq
    (.region [⟨some 3, .none, true, 73, .assign (.func 42)⟩])
  (.keep [1, 3]
  (.seq
    (.region [⟨some 4, .none, true, 0, .fieldAddr 25 (.tmp 1) 0⟩,
      ⟨some 5, .none, true, 22, .load 22 (.tmp 4)⟩,
      ⟨some 6, .none, true, 3, .call { callee := .builtin .len, args := #[.tmp 5], argTypes := #[22] }⟩,
      ⟨some 7, .none, true, 4, .binOp .geq 3 (.tmp 6) (.const (.int .i64 1)) 3⟩,
      ⟨some 8, .none, true, 4, .move (.tmp 7)⟩,
      ⟨some 9, .some 8 true, true, 0, .fieldAddr 25 (.tmp 1) 0⟩,
      ⟨some 10, .some 8 true, true, 22, .load 22 (.tmp 9)⟩,
      ⟨some 11, .some 8 true, true, 3, .call { callee := .builtin .len, args := #[.tmp 10], argTypes := #[22] }⟩,
      ⟨some 12, .some 8 true, true, 4, .binOp .leq 3 (.tmp 11) (.const (.int .i64 3)) 3⟩,
      ⟨some 13, .none, true, 4, .pick (.tmp 8) (.tmp 12) (.const (.bool false))⟩,
      ⟨some 14, .none, true, 4, .move (.tmp 13)⟩,
      ⟨some 15, .some 14 true, true, 0, .fieldAddr 25 (.tmp 1) 0⟩,
      ⟨some 16, .some 14 true, true, 22, .load 22 (.tmp 15)⟩,
      ⟨some 17, .some 14 true, true, 73, .move (.tmp 3)⟩,
      ⟨some 18, .some 14 true, true, 4, .call { callee := .value (.func 43), args := #[.tmp 16, .tmp 17], argTypes := #[22, 73] }⟩,
      ⟨some 19, .some 14 true, true, 4, .unOp .not 4 (.tmp 18)⟩,
      ⟨some 20, .none, true, 4, .pick (.tmp 14) (.tmp 19) (.const (.bool false))⟩,
      ⟨some 2, .none, true, 4, .assign (.tmp 20)⟩])
  .ret)))))
theorem t_path_Good : FnT Tryd.prog f_path_Good rc_path_Good [.tmp 2] 1 := ⟨⟨[], Tryd.f13, _, Tryd.func13, rfl, by kernel_rfl, by kernel_rfl, by kernel_rfl, rfl, by decide⟩, by kernel_rfl⟩
/-- reeve/path.Word -/
abbrev f_path_Word : FuncId := 14
def rc_path_Wordl0 : RCode :=
  (.seq
    (.region [⟨some 18, .none, true, 0, .binOp .lss 3 (.tmp 17) (.tmp 16) 3⟩])
  (.keep [4, 15, 16, 17, 18]
  (.seq
    (.cond (.tmp 18)
      .skip
      (.exit 0))
  (.keep [4, 15, 16, 17]
  (.seq
    (.block 1
      (.seq
        (.region [⟨some 19, .none, true, 3, .move (.tmp 17)⟩,
          ⟨some 20, .none, true, 0, .indexAddr 22 (.tmp 15) (.tmp 17)⟩,
          ⟨some 21, .none, true, 3, .load 3 (.tmp 20)⟩,
          ⟨some 5, .none, true, 3, .assign (.tmp 19)⟩,
          ⟨some 6, .none, true, 3, .assign (.tmp 21)⟩])
      (.keep [4, 5, 6, 15, 16, 17]
      (.region [⟨some 22, .none, true, 27, .move (.tmp 4)⟩,
        ⟨some 23, .none, true, 3, .move (.tmp 6)⟩,
        ⟨some 24, .none, true, 27, .convert 3 27 (.tmp 23)⟩,
        ⟨some 25, .none, true, 3, .move (.tmp 5)⟩,
        ⟨some 26, .none, true, 3, .binOp .add 3 (.tmp 25) (.const (.int .i64 1)) 3⟩,
        ⟨some 27, .none, true, 3, .binOp .mul 3 (.const (.int .i64 4)) (.tmp 26) 3⟩,
        ⟨some 28, .none, true, 27, .binOp .shl 27 (.tmp 24) (.tmp 27) 3⟩,
        ⟨some 29, .none, true, 27, .binOp .or 27 (.tmp 22) (.tmp 28) 27⟩,
        ⟨some 4, .none, true, 27, .assign (.tmp 29)⟩]))))
  (.keep [4, 15, 16, 17]
  (.region [⟨some 30, .none, true, 3, .binOp .add 3 (.tmp 17) (.const (.int .i64 1)) 3⟩,
    ⟨some 17, .none, true, 3, .move (.tmp 30)⟩])))))))
def rc_path_Word : RCode :=
  (.seq
    (.region [⟨some 1, .none, true, 0, .box 25 (.tmp 0)⟩,
      ⟨some 2, .none, true, 27, .assign (.const (.int .u64 0))⟩,
      ⟨some 3, .none, true, 4, .assign (.const (.bool false))⟩])
  (.keep [1]
  (.seq
    (.seq
      (.region [⟨some 7, .none, true, 25, .load 25 (.tmp 1)⟩,
        ⟨some 8, .none, true, 4, .call { callee := .value (.func 13), args := #[.tmp 7], argTypes := #[25] }⟩,
        ⟨some 9, .none, true, 4, .unOp .not 4 (.tmp 8)⟩])
    (.keep [1, 9]
    (.cond (.tmp 9)
      (.seq
        (.region [⟨some 2, .none, true, 27, .assign (.const (.int .u64 0))⟩,
          ⟨some 3, .none, true, 4, .assign (.const (.bool false))⟩])
      .ret)
      .skip)))
  (.seq
    (.region [⟨some 10, .none, true, 0, .fieldAddr 25 (.tmp 1) 0⟩,
      ⟨some 11, .none, true, 22, .load 22 (.tmp 10)⟩,
      ⟨some 12, .none, true, 3, .call { callee := .builtin .len, args := #[.tmp 11], argTypes := #[22] }⟩,
      ⟨some 13, .none, true, 27, .convert 3 27 (.tmp 12)⟩,
      ⟨some 4, .none, true, 27, .assign (.tmp 13)⟩])
  (.keep [1, 4]
  (.seq
    (.seq
      (.region [⟨some 14, .none, true, 0, .fieldAddr 25 (.tmp 1) 0⟩,
        ⟨some 15, .none, true, 22, .load 22 (.tmp 14)⟩,
        ⟨some 16, .none, true, 3, .call { callee := .builtin .len, args := #[.tmp 15], argTypes := #[22] }⟩,
        ⟨some 17, .none, true, 3, .move (.const (.int .i64 0))⟩])
    (.keep [4, 15, 16, 17]
    (.block 0
      (.loop [4, 15, 16, 17] rc_path_Wordl0))))
  (.seq
    (.region [⟨some 31, .none, true, 27, .move (.tmp 4)⟩,
      ⟨some 2, .none, true, 27, .assign (.tmp 31)⟩,
      ⟨some 3, .none, true, 4, .assign (.const (.bool true))⟩])
  .ret)))))))
theorem t_path_Word : FnT Tryd.prog f_path_Word rc_path_Word [.tmp 2, .tmp 3] 1 := ⟨⟨[], Tryd.f14, _, Tryd.func14, rfl, by kernel_rfl, by kernel_rfl, by kernel_rfl, rfl, by decide⟩, by kernel_rfl⟩
/-- reeve/reevelaw9.ints -/
abbrev f_reevelaw9_ints : FuncId := 15
def rc_reevelaw9_intsl0 : RCode :=
  (.seq
    (.seq
      (.region [⟨some 11, .none, true, 3, .move (.tmp 5)⟩,
        ⟨some 12, .none, true, 22, .move (.tmp 0)⟩,
        ⟨some 13, .none, true, 3, .call { callee := .builtin .len, args := #[.tmp 12], argTypes := #[22] }⟩,
        ⟨some 14, .none, true, 4, .binOp .lss 3 (.tmp 11) (.tmp 13) 3⟩])
    (.keep [0, 1, 5, 14]
    (.cond (.tmp 14)
      .skip
      (.exit 0))))
  (.seq
    (.block 1
      (.seq
        (.region [⟨some 17, .none, false, 22, .move (.tmp 0)⟩,
          ⟨some 18, .none, false, 3, .move (.tmp 5)⟩,
          ⟨some 19, .none, false, 0, .indexAddr 22 (.tmp 17) (.tmp 18)⟩,
          ⟨some 20, .none, false, 3, .load 3 (.tmp 19)⟩,
          ⟨some 21, .none, false, 22, .move (.tmp 1)⟩,
          ⟨some 22, .none, false, 3, .move (.tmp 5)⟩,
          ⟨some 23, .none, false, 0, .indexAddr 22 (.tmp 21) (.tmp 22)⟩,
          ⟨some 24, .none, false, 3, .load 3 (.tmp 23)⟩,
          ⟨some 25, .none, true, 4, .binOp .neq 3 (.tmp 20) (.tmp 24) 3⟩])
      (.keep [0, 1, 5, 25]
      (.cond (.tmp 25)
        (.seq
          (.region [⟨some 4, .none, true, 4, .assign (.const (.bool false))⟩])
        .ret)
        .skip))))
  (.keep [0, 1, 5]
  (.region [⟨some 15, .none, true, 3, .move (.tmp 5)⟩,
    ⟨some 16, .none, true, 3, .binOp .add 3 (.tmp 15) (.const (.int .i64 1)) 3⟩,
    ⟨some 5, .none, true, 3, .assign (.tmp 16)⟩]))))
def rc_reevelaw9_ints : RCode :=
  (.seq
    (.region [⟨some 4, .none, true, 4, .assign (.const (.bool false))⟩])
  (.keep [0, 1]
  (.seq
    (.seq
      (.region [⟨some 6, .none, true, 22, .move (.tmp 0)⟩,
        ⟨some 7, .none, true, 3, .call { callee := .builtin .len, args := #[.tmp 6], argTypes := #[22] }⟩,
        ⟨some 8, .none, true, 22, .move (.tmp 1)⟩,
        ⟨some 9, .none, true, 3, .call { callee := .builtin .len, args := #[.tmp 8], argTypes := #[22] }⟩,
        ⟨some 10, .none, true, 4, .binOp .neq 3 (.tmp 7) (.tmp 9) 3⟩])
    (.keep [0, 1, 10]
    (.cond (.tmp 10)
      (.seq
        (.region [⟨some 4, .none, true, 4, .assign (.const (.bool false))⟩])
      .ret)
      .skip)))
  (.seq
    (.seq
      (.region [⟨some 5, .none, true, 3, .assign (.const (.int .i64 0))⟩])
    (.keep [0, 1, 5]
    (.block 0
      (.loop [0, 1, 5] rc_reevelaw9_intsl0))))
  (.seq
    (.region [⟨some 4, .none, true, 4, .assign (.const (.bool true))⟩])
  .ret)))))
theorem t_reevelaw9_ints : FnT Tryd.prog f_reevelaw9_ints rc_reevelaw9_ints [.tmp 4] 2 := ⟨⟨[], Tryd.f15, _, Tryd.func15, rfl, by kernel_rfl, by kernel_rfl, by kernel_rfl, rfl, by decide⟩, by kernel_rfl⟩
/-- reeve/path.Text -/
abbrev f_path_Text : FuncId := 16
def rc_path_Textl0 : RCode :=
  (.seq
    (.region [⟨some 13, .none, true, 0, .binOp .lss 3 (.tmp 12) (.tmp 11) 3⟩])
  (.keep [3, 10, 11, 12, 13]
  (.seq
    (.cond (.tmp 13)
      .skip
      (.exit 0))
  (.keep [3, 10, 11, 12]
  (.seq
    (.block 1
      (.seq
        (.region [⟨some 14, .none, true, 0, .indexAddr 22 (.tmp 10) (.tmp 12)⟩,
          ⟨some 15, .none, true, 3, .load 3 (.tmp 14)⟩,
          ⟨some 5, .none, true, 3, .assign (.tmp 15)⟩])
      (.keep [3, 5, 10, 11, 12]
      (.region [⟨some 16, .none, true, 65, .move (.tmp 3)⟩,
        ⟨some 17, .none, true, 3, .move (.tmp 5)⟩,
        ⟨some 18, .none, true, 9, .call { callee := .value (.func 44), args := #[.tmp 17], argTypes := #[3] }⟩,
        ⟨some 19, .none, true, 65, .buildSlice 65 1 #[(0, .tmp 18)]⟩,
        ⟨some 20, .none, true, 65, .call { callee := .builtin .append, args := #[.tmp 16, .tmp 19], argTypes := #[65, 65] }⟩,
        ⟨some 3, .none, true, 65, .assign (.tmp 20)⟩]))))
  (.keep [3, 10, 11, 12]
  (.region [⟨some 21, .none, true, 3, .binOp .add 3 (.tmp 12) (.const (.int .i64 1)) 3⟩,
    ⟨some 12, .none, true, 3, .move (.tmp 21)⟩])))))))
def rc_path_Text : RCode :=
  (.seq
    (.region [⟨some 1, .none, true, 0, .box 25 (.tmp 0)⟩,
      ⟨some 2, .none, true, 9, .assign (.const (.string { data := #[] }))⟩])
  (.keep [1]
  (.seq
    (.seq
      (.region [⟨some 6, .none, true, 25, .load 25 (.tmp 1)⟩,
        ⟨some 7, .none, true, 4, .call { callee := .value (.func 13), args := #[.tmp 6], argTypes := #[25] }⟩,
        ⟨some 8, .none, true, 4, .unOp .not 4 (.tmp 7)⟩])
    (.keep [1, 8]
    (.cond (.tmp 8)
      (.seq
        (.region [⟨some 2, .none, true, 9, .assign (.const (.string { data := #[] }))⟩])
      .ret)
      .skip)))
  (.seq
    (.region [⟨some 3, .none, true, 65, .assign (.const (.slice none 0 0))⟩])
  (.keep [1, 3]
  (.seq
    (.seq
      (.region [⟨some 9, .none, true, 0, .fieldAddr 25 (.tmp 1) 0⟩,
        ⟨some 10, .none, true, 22, .load 22 (.tmp 9)⟩,
        ⟨some 11, .none, true, 3, .call { callee := .builtin .len, args := #[.tmp 10], argTypes := #[22] }⟩,
        ⟨some 12, .none, true, 3, .move (.const (.int .i64 0))⟩])
    (.keep [3, 10, 11, 12]
    (.block 0
      (.loop [3, 10, 11, 12] rc_path_Textl0))))
  (.seq
    (.region [⟨some 22, .none, true, 65, .move (.tmp 3)⟩,
      ⟨some 23, .none, true, 9, .call { callee := .value (.func 45), args := #[.tmp 22, .const (.string { data := #[46] })], argTypes := #[65, 9] }⟩,
      ⟨some 2, .none, true, 9, .assign (.tmp 23)⟩])
  .ret)))))))
theorem t_path_Text : FnT Tryd.prog f_path_Text rc_path_Text [.tmp 2] 1 := ⟨⟨[], Tryd.f16, _, Tryd.func16, rfl, by kernel_rfl, by kernel_rfl, by kernel_rfl, rfl, by decide⟩, by kernel_rfl⟩
/-- reeve/path.Begins -/
abbrev f_path_Begins : FuncId := 17
def rc_path_Begins : RCode :=
  (.seq
    (.region [⟨some 2, .none, true, 0, .box 25 (.tmp 0)⟩,
      ⟨some 3, .none, true, 0, .box 25 (.tmp 1)⟩,
      ⟨some 4, .none, true, 4, .assign (.const (.bool false))⟩])
  (.keep [2, 3]
  (.seq
    (.region [⟨some 5, .none, false, 0, .fieldAddr 25 (.tmp 2) 0⟩,
      ⟨some 6, .none, false, 22, .load 22 (.tmp 5)⟩,
      ⟨some 7, .none, false, 3, .call { callee := .builtin .len, args := #[.tmp 6], argTypes := #[22] }⟩,
      ⟨some 8, .none, false, 0, .fieldAddr 25 (.tmp 3) 0⟩,
      ⟨some 9, .none, false, 22, .load 22 (.tmp 8)⟩,
      ⟨some 10, .none, false, 3, .call { callee := .builtin .len, args := #[.tmp 9], argTypes := #[22] }⟩,
      ⟨some 11, .none, true, 4, .binOp .geq 3 (.tmp 7) (.tmp 10) 3⟩,
      ⟨some 12, .none, true, 4, .move (.tmp 11)⟩,
      ⟨some 13, .some 12 true, false, 0, .fieldAddr 25 (.tmp 2) 0⟩,
      ⟨some 14, .some 12 true, false, 22, .load 22 (.tmp 13)⟩,
      ⟨some 15, .some 12 true, false, 0, .fieldAddr 25 (.tmp 3) 0⟩,
      ⟨some 16, .some 12 true, false, 22, .load 22 (.tmp 15)⟩,
      ⟨some 17, .some 12 true, false, 3, .call { callee := .builtin .len, args := #[.tmp 16], argTypes := #[22] }⟩,
      ⟨some 18, .some 12 true, false, 22, .slice 22 (.tmp 14) none (some (.tmp 17)) none⟩,
      ⟨some 19, .some 12 true, false, 0, .fieldAddr 25 (.tmp 3) 0⟩,
      ⟨some 20, .some 12 true, false, 22, .load 22 (.tmp 19)⟩,
      ⟨some 21, .some 12 true, true, 4, .call { callee := .value (.func 46), args := #[.tmp 18, .tmp 20], argTypes := #[22, 22] }⟩,
      ⟨some 22, .none, true, 4, .pick (.tmp 12) (.tmp 21) (.const (.bool false))⟩,
      ⟨some 4, .none, true, 4, .assign (.tmp 22)⟩])
  .ret)))
theorem t_path_Begins : FnT Tryd.prog f_path_Begins rc_path_Begins [.tmp 4] 2 := ⟨⟨[], Tryd.f17, _, Tryd.func17, rfl, by kernel_rfl, by kernel_rfl, by kernel_rfl, rfl, by decide⟩, by kernel_rfl⟩
/-- reeve/path.Good$1 -/
abbrev f_path_Good_1 : FuncId := 42
def rc_path_Good_1 : RCode :=
  (.seq
    (.region [⟨some 2, .none, true, 4, .assign (.const (.bool false))⟩])
  (.keep [0]
  (.seq
    (.region [⟨some 3, .none, true, 3, .move (.tmp 0)⟩,
      ⟨some 4, .none, true, 4, .binOp .lss 3 (.tmp 3) (.const (.int .i64 0)) 3⟩,
      ⟨some 5, .none, true, 4, .move (.tmp 4)⟩,
      ⟨some 6, .some 5 false, true, 3, .move (.tmp 0)⟩,
      ⟨some 7, .some 5 false, true, 4, .binOp .gtr 3 (.tmp 6) (.const (.int .i64 15)) 3⟩,
      ⟨some 8, .none, true, 4, .pick (.tmp 5) (.const (.bool true)) (.tmp 7)⟩,
      ⟨some 2, .none, true, 4, .assign (.tmp 8)⟩])
  .ret)))
theorem t_path_Good_1 : FnT Tryd.prog f_path_Good_1 rc_path_Good_1 [.tmp 2] 1 := ⟨⟨[], Tryd.f42, _, Tryd.func42, rfl, by kernel_rfl, by kernel_rfl, by kernel_rfl, rfl, by decide⟩, by kernel_rfl⟩
/-- slices.ContainsFunc[[]int,int] -/
abbrev f_slices_ContainsFunc_S_int_int : FuncId := 43
def rc_slices_ContainsFunc_S_int_int : RCode :=
  (.seq
    (.region [⟨some 4, .none, true, 4, .assign (.const (.bool false))⟩])
  (.keep [0, 1]
  (.seq
    (.region [⟨some 5, .none, true, 22, .move (.tmp 0)⟩,
      ⟨some 6, .none, true, 73, .move (.tmp 1)⟩,
      ⟨some 7, .none, true, 3, .call { callee := .value (.func 64), args := #[.tmp 5, .tmp 6], argTypes := #[22, 73] }⟩,
      ⟨some 8, .none, true, 4, .binOp .geq 3 (.tmp 7) (.const (.int .i64 0)) 3⟩,
      ⟨some 4, .none, true, 4, .assign (.tmp 8)⟩])
  .ret)))
theorem t_slices_ContainsFunc_S_int_int : FnT Tryd.prog f_slices_ContainsFunc_S_int_int rc_slices_ContainsFunc_S_int_int [.tmp 4] 2 := ⟨⟨[], Tryd.f43, _, Tryd.func43, rfl, by kernel_rfl, by kernel_rfl, by kernel_rfl, rfl, by decide⟩, by kernel_rfl⟩
/-- strconv.Itoa -/
abbrev f_strconv_Itoa : FuncId := 44
def rc_strconv_Itoa : RCode :=
  (.seq
    (.region [⟨some 2, .none, true, 9, .assign (.const (.string { data := #[] }))⟩])
  (.keep [0]
  (.seq
    (.region [⟨some 3, .none, true, 3, .move (.tmp 0)⟩,
      ⟨some 4, .none, true, 9, .call { callee := .value (.func 65), args := #[.tmp 3], argTypes := #[3] }⟩,
      ⟨some 2, .none, true, 9, .assign (.tmp 4)⟩])
  .ret)))
theorem t_strconv_Itoa : FnT Tryd.prog f_strconv_Itoa rc_strconv_Itoa [.tmp 2] 1 := ⟨⟨[], Tryd.f44, _, Tryd.func44, rfl, by kernel_rfl, by kernel_rfl, by kernel_rfl, rfl, by decide⟩, by kernel_rfl⟩
/-- strings.Join -/
abbrev f_strings_Join : FuncId := 45
def rc_strings_Joinl0 : RCode :=
  (.seq
    (.region [⟨some 42, .none, true, 0, .binOp .lss 3 (.tmp 41) (.tmp 40) 3⟩])
  (.keep [0, 1, 5, 39, 40, 41, 42]
  (.seq
    (.cond (.tmp 42)
      .skip
      (.exit 1))
  (.keep [0, 1, 5, 39, 40, 41]
  (.seq
    (.block 2
      (.seq
        (.region [⟨some 43, .none, true, 0, .indexAddr 65 (.tmp 39) (.tmp 41)⟩,
          ⟨some 44, .none, true, 9, .load 9 (.tmp 43)⟩,
          ⟨some 7, .none, true, 9, .assign (.tmp 44)⟩])
      (.keep [0, 1, 5, 7, 39, 40, 41]
      (.seq
        (.seq
          (.region [⟨some 45, .none, true, 9, .move (.tmp 7)⟩,
            ⟨some 46, .none, true, 3, .call { callee := .builtin .len, args := #[.tmp 45], argTypes := #[9] }⟩,
            ⟨some 47, .none, true, 3, .move (.tmp 5)⟩,
            ⟨some 48, .none, true, 3, .binOp .sub 3 (.const (.int .i64 9223372036854775807)) (.tmp 47) 3⟩,
            ⟨some 49, .none, true, 4, .binOp .gtr 3 (.tmp 46) (.tmp 48) 3⟩])
        (.keep [0, 1, 5, 7, 39, 40, 41, 49]
        (.cond (.tmp 49)
          (.region [⟨some 50, .none, true, 20, .makeInterface 9 (.const (.string { data := #[115, 116, 114, 105, 110, 103, 115, 58, 32, 74, 111, 105, 110, 32, 111, 117, 116, 112, 117, 116, 32, 108, 101, 110, 103, 116, 104, 32, 111, 118, 101, 114, 102, 108, 111, 119] }))⟩,
            ⟨none, .none, true, 0, .panic (.tmp 50)⟩])
          .skip)))
      (.region [⟨some 51, .none, true, 3, .move (.tmp 5)⟩,
        ⟨some 52, .none, true, 9, .move (.tmp 7)⟩,
        ⟨some 53, .none, true, 3, .call { callee := .builtin .len, args := #[.tmp 52], argTypes := #[9] }⟩,
        ⟨some 54, .none, true, 3, .binOp .add 3 (.tmp 51) (.tmp 53) 3⟩,
        ⟨some 5, .none, true, 3, .assign (.tmp 54)⟩])))))
  (.keep [0, 1, 5, 39, 40, 41]
  (.region [⟨some 55, .none, true, 3, .binOp .add 3 (.tmp 41) (.const (.int .i64 1)) 3⟩,
    ⟨some 41, .none, true, 3, .move (.tmp 55)⟩])))))))
def rc_strings_Joinl1 : RCode :=
  (.seq
    (.region [⟨some 66, .none, true, 0, .binOp .lss 3 (.tmp 65) (.tmp 64) 3⟩])
  (.keep [1, 8, 63, 64, 65, 66]
  (.seq
    (.cond (.tmp 66)
      .skip
      (.exit 3))
  (.keep [1, 8, 63, 64, 65]
  (.seq
    (.block 4
      (.seq
        (.region [⟨some 67, .none, true, 0, .indexAddr 65 (.tmp 63) (.tmp 65)⟩,
          ⟨some 68, .none, true, 9, .load 9 (.tmp 67)⟩,
          ⟨some 10, .none, true, 9, .assign (.tmp 68)⟩])
      (.keep [1, 8, 10, 63, 64, 65]
      (.seq
        (.region [⟨some 69, .none, true, 9, .move (.tmp 1)⟩,
          ⟨some 70, .none, true, 89, .call { callee := .value (.func 67), args := #[.tmp 8, .tmp 69], argTypes := #[95, 9] }⟩])
      (.keep [1, 8, 10, 63, 64, 65]
      (.region [⟨some 71, .none, true, 9, .move (.tmp 10)⟩,
        ⟨some 72, .none, true, 89, .call { callee := .value (.func 67), args := #[.tmp 8, .tmp 71], argTypes := #[95, 9] }⟩]))))))
  (.keep [1, 8, 63, 64, 65]
  (.region [⟨some 73, .none, true, 3, .binOp .add 3 (.tmp 65) (.const (.int .i64 1)) 3⟩,
    ⟨some 65, .none, true, 3, .move (.tmp 73)⟩])))))))
def rc_strings_Join : RCode :=
  (.seq
    (.region [⟨some 4, .none, true, 9, .assign (.const (.string { data := #[] }))⟩])
  (.keep [0, 1]
  (.seq
    (.seq
      (.region [⟨some 11, .none, true, 65, .move (.tmp 0)⟩,
        ⟨some 12, .none, true, 3, .call { callee := .builtin .len, args := #[.tmp 11], argTypes := #[65] }⟩])
    (.keep [0, 1, 12]
    (.block 0
      (.seq
        (.region [⟨some 14, .none, true, 4, .binOp .eql 3 (.tmp 12) (.const (.int .i64 0)) 3⟩,
          ⟨some 13, .none, true, 4, .assign (.tmp 14)⟩])
      (.keep [0, 1, 12, 13]
      (.cond (.tmp 13)
        (.seq
          (.region [⟨some 4, .none, true, 9, .assign (.const (.string { data := #[] }))⟩])
        .ret)
        (.seq
          (.region [⟨some 16, .none, true, 4, .binOp .eql 3 (.tmp 12) (.const (.int .i64 1)) 3⟩,
            ⟨some 15, .none, true, 4, .assign (.tmp 16)⟩])
        (.keep [0, 1, 15]
        (.cond (.tmp 15)
          (.seq
            (.region [⟨some 17, .none, true, 65, .move (.tmp 0)⟩,
              ⟨some 18, .none, true, 0, .indexAddr 65 (.tmp 17) (.const (.int .i64 0))⟩,
              ⟨some 19, .none, true, 9, .load 9 (.tmp 18)⟩,
              ⟨some 4, .none, true, 9, .assign (.tmp 19)⟩])
          .ret)
          .skip)))))))))
  (.seq
    (.region [⟨some 5, .none, true, 3, .assign (.const (.int .i64 0))⟩])
  (.keep [0, 1, 5]
  (.seq
    (.seq
      (.region [⟨some 20, .none, true, 9, .move (.tmp 1)⟩,
        ⟨some 21, .none, true, 3, .call { callee := .builtin .len, args := #[.tmp 20], argTypes := #[9] }⟩,
        ⟨some 22, .none, true, 4, .binOp .gtr 3 (.tmp 21) (.const (.int .i64 0)) 3⟩])
    (.keep [0, 1, 5, 22]
    (.cond (.tmp 22)
      (.seq
        (.seq
          (.region [⟨some 23, .none, true, 9, .move (.tmp 1)⟩,
            ⟨some 24, .none, true, 3, .call { callee := .builtin .len, args := #[.tmp 23], argTypes := #[9] }⟩,
            ⟨some 25, .none, true, 65, .move (.tmp 0)⟩,
            ⟨some 26, .none, true, 3, .call { callee := .builtin .len, args := #[.tmp 25], argTypes := #[65] }⟩,
            ⟨some 27, .none, true, 3, .binOp .sub 3 (.tmp 26) (.const (.int .i64 1)) 3⟩,
            ⟨some 28, .none, true, 3, .binOp .quo 3 (.const (.int .i64 9223372036854775807)) (.tmp 27) 3⟩,
            ⟨some 29, .none, true, 4, .binOp .geq 3 (.tmp 24) (.tmp 28) 3⟩])
        (.keep [0, 1, 5, 29]
        (.cond (.tmp 29)
          (.region [⟨some 30, .none, true, 20, .makeInterface 9 (.const (.string { data := #[115, 116, 114, 105, 110, 103, 115, 58, 32, 74, 111, 105, 110, 32, 111, 117, 116, 112, 117, 116, 32, 108, 101, 110, 103, 116, 104, 32, 111, 118, 101, 114, 102, 108, 111, 119] }))⟩,
            ⟨none, .none, true, 0, .panic (.tmp 30)⟩])
          .skip)))
      (.region [⟨some 31, .none, true, 3, .move (.tmp 5)⟩,
        ⟨some 32, .none, true, 9, .move (.tmp 1)⟩,
        ⟨some 33, .none, true, 3, .call { callee := .builtin .len, args := #[.tmp 32], argTypes := #[9] }⟩,
        ⟨some 34, .none, true, 65, .move (.tmp 0)⟩,
        ⟨some 35, .none, true, 3, .call { callee := .builtin .len, args := #[.tmp 34], argTypes := #[65] }⟩,
        ⟨some 36, .none, true, 3, .binOp .sub 3 (.tmp 35) (.const (.int .i64 1)) 3⟩,
        ⟨some 37, .none, true, 3, .binOp .mul 3 (.tmp 33) (.tmp 36) 3⟩,
        ⟨some 38, .none, true, 3, .binOp .add 3 (.tmp 31) (.tmp 37) 3⟩,
        ⟨some 5, .none, true, 3, .assign (.tmp 38)⟩]))
      .skip)))
  (.seq
    (.seq
      (.region [⟨some 39, .none, true, 65, .move (.tmp 0)⟩,
        ⟨some 40, .none, true, 3, .call { callee := .builtin .len, args := #[.tmp 39], argTypes := #[65] }⟩,
        ⟨some 41, .none, true, 3, .move (.const (.int .i64 0))⟩])
    (.keep [0, 1, 5, 39, 40, 41]
    (.block 1
      (.loop [0, 1, 5, 39, 40, 41] rc_strings_Joinl0))))
  (.seq
    (.region [⟨some 8, .none, true, 0, .alloc 95⟩])
  (.keep [0, 1, 5, 8]
  (.seq
    (.region [⟨some 56, .none, true, 3, .move (.tmp 5)⟩,
      ⟨some 57, .none, true, 0, .call { callee := .value (.func 66), args := #[.tmp 8, .tmp 56], argTypes := #[95, 3] }⟩])
  (.keep [0, 1, 8]
  (.seq
    (.region [⟨some 58, .none, true, 65, .move (.tmp 0)⟩,
      ⟨some 59, .none, true, 0, .indexAddr 65 (.tmp 58) (.const (.int .i64 0))⟩,
      ⟨some 60, .none, true, 9, .load 9 (.tmp 59)⟩,
      ⟨some 61, .none, true, 89, .call { callee := .value (.func 67), args := #[.tmp 8, .tmp 60], argTypes := #[95, 9] }⟩])
  (.keep [0, 1, 8]
  (.seq
    (.seq
      (.region [⟨some 62, .none, true, 65, .move (.tmp 0)⟩,
        ⟨some 63, .none, true, 65, .slice 65 (.tmp 62) (some (.const (.int .i64 1))) none none⟩,
        ⟨some 64, .none, true, 3, .call { callee := .builtin .len, args := #[.tmp 63], argTypes := #[65] }⟩,
        ⟨some 65, .none, true, 3, .move (.const (.int .i64 0))⟩])
    (.keep [1, 8, 63, 64, 65]
    (.block 3
      (.loop [1, 8, 63, 64, 65] rc_strings_Joinl1))))
  (.seq
    (.region [⟨some 74, .none, true, 9, .call { callee := .value (.func 68), args := #[.tmp 8], argTypes := #[95] }⟩,
      ⟨some 4, .none, true, 9, .assign (.tmp 74)⟩])
  .ret)))))))))))))))
theorem t_strings_Join : FnT Tryd.prog f_strings_Join rc_strings_Join [.tmp 4] 2 := ⟨⟨[], Tryd.f45, _, Tryd.func45, rfl, by kernel_rfl, by kernel_rfl, by kernel_rfl, rfl, by decide⟩, by kernel_rfl⟩
/-- slices.Equal[[]int,int] -/
abbrev f_slices_Equal_S_int_int : FuncId := 46
def rc_slices_Equal_S_int_intl0 : RCode :=
  (.seq
    (.region [⟨some 14, .none, true, 0, .binOp .lss 3 (.tmp 13) (.tmp 12) 3⟩])
  (.keep [0, 1, 12, 13, 14]
  (.seq
    (.cond (.tmp 14)
      .skip
      (.exit 0))
  (.keep [0, 1, 12, 13]
  (.seq
    (.block 1
      (.seq
        (.region [⟨some 15, .none, true, 3, .move (.tmp 13)⟩,
          ⟨some 5, .none, true, 3, .assign (.tmp 15)⟩])
      (.keep [0, 1, 5, 12, 13]
      (.seq
        (.region [⟨some 16, .none, false, 22, .move (.tmp 0)⟩,
          ⟨some 17, .none, false, 3, .move (.tmp 5)⟩,
          ⟨some 18, .none, false, 0, .indexAddr 22 (.tmp 16) (.tmp 17)⟩,
          ⟨some 19, .none, false, 3, .load 3 (.tmp 18)⟩,
          ⟨some 20, .none, false, 22, .move (.tmp 1)⟩,
          ⟨some 21, .none, false, 3, .move (.tmp 5)⟩,
          ⟨some 22, .none, false, 0, .indexAddr 22 (.tmp 20) (.tmp 21)⟩,
          ⟨some 23, .none, false, 3, .load 3 (.tmp 22)⟩,
          ⟨some 24, .none, true, 4, .binOp .neq 3 (.tmp 19) (.tmp 23) 3⟩])
      (.keep [0, 1, 12, 13, 24]
      (.cond (.tmp 24)
        (.seq
          (.region [⟨some 4, .none, true, 4, .assign (.const (.bool false))⟩])
        .ret)
        .skip))))))
  (.keep [0, 1, 12, 13]
  (.region [⟨some 25, .none, true, 3, .binOp .add 3 (.tmp 13) (.const (.int .i64 1)) 3⟩,
    ⟨some 13, .none, true, 3, .move (.tmp 25)⟩])))))))
def rc_slices_Equal_S_int_int : RCode :=
  (.seq
    (.region [⟨some 4, .none, true, 4, .assign (.const (.bool false))⟩])
  (.keep [0, 1]
  (.seq
    (.seq
      (.region [⟨some 6, .none, true, 22, .move (.tmp 0)⟩,
        ⟨some 7, .none, true, 3, .call { callee := .builtin .len, args := #[.tmp 6], argTypes := #[22] }⟩,
        ⟨some 8, .none, true, 22, .move (.tmp 1)⟩,
        ⟨some 9, .none, true, 3, .call { callee := .builtin .len, args := #[.tmp 8], argTypes := #[22] }⟩,
        ⟨some 10, .none, true, 4, .binOp .neq 3 (.tmp 7) (.tmp 9) 3⟩])
    (.keep [0, 1, 10]
    (.cond (.tmp 10)
      (.seq
        (.region [⟨some 4, .none, true, 4, .assign (.const (.bool false))⟩])
      .ret)
      .skip)))
  (.seq
    (.seq
      (.region [⟨some 11, .none, true, 22, .move (.tmp 0)⟩,
        ⟨some 12, .none, true, 3, .call { callee := .builtin .len, args := #[.tmp 11], argTypes := #[22] }⟩,
        ⟨some 13, .none, true, 3, .move (.const (.int .i64 0))⟩])
    (.keep [0, 1, 12, 13]
    (.block 0
      (.loop [0, 1, 12, 13] rc_slices_Equal_S_int_intl0))))
  (.seq
    (.region [⟨some 4, .none, true, 4, .assign (.const (.bool true))⟩])
  .ret)))))
theorem t_slices_Equal_S_int_int : FnT Tryd.prog f_slices_Equal_S_int_int rc_slices_Equal_S_int_int [.tmp 4] 2 := ⟨⟨[], Tryd.f46, _, Tryd.func46, rfl, by kernel_rfl, by kernel_rfl, by kernel_rfl, rfl, by decide⟩, by kernel_rfl⟩
/-- slices.IndexFunc[[]int,int] -/
abbrev f_slices_IndexFunc_S_int_int : FuncId := 64
def rc_slices_IndexFunc_S_int_intl0 : RCode :=
  (.seq
    (.region [⟨some 9, .none, true, 0, .binOp .lss 3 (.tmp 8) (.tmp 7) 3⟩])
  (.keep [0, 1, 7, 8, 9]
  (.seq
    (.cond (.tmp 9)
      .skip
      (.exit 0))
  (.keep [0, 1, 7, 8]
  (.seq
    (.block 1
      (.seq
        (.region [⟨some 10, .none, true, 3, .move (.tmp 8)⟩,
          ⟨some 5, .none, true, 3, .assign (.tmp 10)⟩])
      (.keep [0, 1, 5, 7, 8]
      (.seq
        (.region [⟨some 11, .none, true, 73, .move (.tmp 1)⟩,
          ⟨some 12, .none, true, 22, .move (.tmp 0)⟩,
          ⟨some 13, .none, true, 3, .move (.tmp 5)⟩,
          ⟨some 14, .none, true, 0, .indexAddr 22 (.tmp 12) (.tmp 13)⟩,
          ⟨some 15, .none, true, 3, .load 3 (.tmp 14)⟩,
          ⟨some 16, .none, true, 4, .call { callee := .value (.tmp 11), args := #[.tmp 15], argTypes := #[3] }⟩])
      (.keep [0, 1, 5, 7, 8, 16]
      (.cond (.tmp 16)
        (.seq
          (.region [⟨some 17, .none, true, 3, .move (.tmp 5)⟩,
            ⟨some 4, .none, true, 3, .assign (.tmp 17)⟩])
        .ret)
        .skip))))))
  (.keep [0, 1, 7, 8]
  (.region [⟨some 18, .none, true, 3, .binOp .add 3 (.tmp 8) (.const (.int .i64 1)) 3⟩,
    ⟨some 8, .none, true, 3, .move (.tmp 18)⟩])))))))
def rc_slices_IndexFunc_S_int_int : RCode :=
  (.seq
    (.region [⟨some 4, .none, true, 3, .assign (.const (.int .i64 0))⟩])
  (.keep [0, 1]
  (.seq
    (.seq
      (.region [⟨some 6, .none, true, 22, .move (.tmp 0)⟩,
        ⟨some 7, .none, true, 3, .call { callee := .builtin .len, args := #[.tmp 6], argTypes := #[22] }⟩,
        ⟨some 8, .none, true, 3, .move (.const (.int .i64 0))⟩])
    (.keep [0, 1, 7, 8]
    (.block 0
      (.loop [0, 1, 7, 8] rc_slices_IndexFunc_S_int_intl0))))
  (.seq
    (.region [⟨some 4, .none, true, 3, .assign (.const (.int .i64 (-1)))⟩])
  .ret))))
theorem t_slices_IndexFunc_S_int_int : FnT Tryd.prog f_slices_IndexFunc_S_int_int rc_slices_IndexFunc_S_int_int [.tmp 4] 2 := ⟨⟨[], Tryd.f64, _, Tryd.func64, rfl, by kernel_rfl, by kernel_rfl, by kernel_rfl, rfl, by decide⟩, by kernel_rfl⟩
/-- internal/strconv.Itoa -/
abbrev f_internal_strconv_Itoa : FuncId := 65
def rc_internal_strconv_Itoa : RCode :=
  (.seq
    (.region [⟨some 2, .none, true, 9, .assign (.const (.string { data := #[] }))⟩])
  (.keep [0]
  (.seq
    (.region [⟨some 3, .none, true, 3, .move (.tmp 0)⟩,
      ⟨some 4, .none, true, 9, .call { callee := .value (.func 79), args := #[.tmp 3, .const (.int .i64 10)], argTypes := #[2, 3] }⟩,
      ⟨some 2, .none, true, 9, .assign (.tmp 4)⟩])
  .ret)))
theorem t_internal_strconv_Itoa : FnT Tryd.prog f_internal_strconv_Itoa rc_internal_strconv_Itoa [.tmp 2] 1 := ⟨⟨[], Tryd.f65, _, Tryd.func65, rfl, by kernel_rfl, by kernel_rfl, by kernel_rfl, rfl, by decide⟩, by kernel_rfl⟩
/-- (*strings.Builder).Grow -/
abbrev f_P_strings_Builder_Grow : FuncId := 66
def rc_P_strings_Builder_Grow : RCode :=
  (.seq
    (.region [⟨some 4, .none, true, 92, .move (.tmp 0)⟩,
      ⟨some 5, .none, true, 0, .call { callee := .value (.func 80), args := #[.tmp 4], argTypes := #[92] }⟩])
  (.keep [0, 1]
  (.seq
    (.seq
      (.region [⟨some 6, .none, true, 3, .move (.tmp 1)⟩,
        ⟨some 7, .none, true, 4, .binOp .lss 3 (.tmp 6) (.const (.int .i64 0)) 3⟩])
    (.keep [0, 1, 7]
    (.cond (.tmp 7)
      (.region [⟨some 8, .none, true, 20, .makeInterface 9 (.const (.string { data := #[115, 116, 114, 105, 110, 103, 115, 46, 66, 117, 105, 108, 100, 101, 114, 46, 71, 114, 111, 119, 58, 32, 110, 101, 103, 97, 116, 105, 118, 101, 32, 99, 111, 117, 110, 116] }))⟩,
        ⟨none, .none, true, 0, .panic (.tmp 8)⟩])
      .skip)))
  (.seq
    (.region [⟨some 9, .none, false, 92, .move (.tmp 0)⟩,
      ⟨some 10, .none, false, 0, .nilCheck (.tmp 9)⟩,
      ⟨some 11, .none, false, 0, .fieldAddr 95 (.tmp 10) 1⟩,
      ⟨some 12, .none, false, 93, .load 93 (.tmp 11)⟩,
      ⟨some 13, .none, false, 3, .call { callee := .builtin .cap, args := #[.tmp 12], argTypes := #[93] }⟩,
      ⟨some 14, .none, false, 92, .move (.tmp 0)⟩,
      ⟨some 15, .none, false, 0, .nilCheck (.tmp 14)⟩,
      ⟨some 16, .none, false, 0, .fieldAddr 95 (.tmp 15) 1⟩,
      ⟨some 17, .none, false, 93, .load 93 (.tmp 16)⟩,
      ⟨some 18, .none, false, 3, .call { callee := .builtin .len, args := #[.tmp 17], argTypes := #[93] }⟩,
      ⟨some 19, .none, true, 3, .binOp .sub 3 (.tmp 13) (.tmp 18) 3⟩,
      ⟨some 20, .none, false, 3, .move (.tmp 1)⟩,
      ⟨some 21, .none, true, 4, .binOp .lss 3 (.tmp 19) (.tmp 20) 3⟩])
  (.keep [0, 1, 21]
  (.cond (.tmp 21)
    (.region [⟨some 22, .none, true, 92, .move (.tmp 0)⟩,
      ⟨some 23, .none, true, 3, .move (.tmp 1)⟩,
      ⟨some 24, .none, true, 0, .call { callee := .value (.func 81), args := #[.tmp 22, .tmp 23], argTypes := #[92, 3] }⟩])
    .skip))))))
theorem t_P_strings_Builder_Grow : FnT Tryd.prog f_P_strings_Builder_Grow rc_P_strings_Builder_Grow [] 2 := ⟨⟨[], Tryd.f66, _, Tryd.func66, rfl, by kernel_rfl, by kernel_rfl, by kernel_rfl, rfl, by decide⟩, by kernel_rfl⟩
/-- (*strings.Builder).WriteString -/
abbrev f_P_strings_Builder_WriteString : FuncId := 67
def rc_P_strings_Builder_WriteString : RCode :=
  (.seq
    (.region [⟨some 4, .none, true, 3, .assign (.const (.int .i64 0))⟩,
      ⟨some 5, .none, true, 88, .assign (.const .nilIface)⟩])
  (.keep [0, 1]
  (.seq
    (.region [⟨some 6, .none, true, 92, .move (.tmp 0)⟩,
      ⟨some 7, .none, true, 0, .call { callee := .value (.func 80), args := #[.tmp 6], argTypes := #[92] }⟩])
  (.keep [0, 1]
  (.seq
    (.region [⟨some 8, .none, true, 92, .move (.tmp 0)⟩,
      ⟨some 9, .none, true, 92, .move (.tmp 0)⟩,
      ⟨some 10, .none, true, 0, .nilCheck (.tmp 9)⟩,
      ⟨some 11, .none, true, 0, .fieldAddr 95 (.tmp 10) 1⟩,
      ⟨some 12, .none, true, 93, .load 93 (.tmp 11)⟩,
      ⟨some 13, .none, true, 9, .move (.tmp 1)⟩,
      ⟨some 14, .none, true, 93, .call { callee := .builtin .append, args := #[.tmp 12, .tmp 13], argTypes := #[93, 9] }⟩,
      ⟨some 15, .none, true, 0, .nilCheck (.tmp 8)⟩,
      ⟨some 16, .none, true, 0, .fieldAddr 95 (.tmp 15) 1⟩,
      ⟨none, .none, true, 0, .store 93 (.tmp 16) (.tmp 14)⟩])
  (.keep [1]
  (.seq
    (.region [⟨some 17, .none, true, 9, .move (.tmp 1)⟩,
      ⟨some 18, .none, true, 3, .call { callee := .builtin .len, args := #[.tmp 17], argTypes := #[9] }⟩,
      ⟨some 4, .none, true, 3, .assign (.tmp 18)⟩,
      ⟨some 5, .none, true, 88, .assign (.const .nilIface)⟩])
  .ret)))))))
theorem t_P_strings_Builder_WriteString : FnT Tryd.prog f_P_strings_Builder_WriteString rc_P_strings_Builder_WriteString [.tmp 4, .tmp 5] 2 := ⟨⟨[], Tryd.f67, _, Tryd.func67, rfl, by kernel_rfl, by kernel_rfl, by kernel_rfl, rfl, by decide⟩, by kernel_rfl⟩
/-- (*strings.Builder).String -/
abbrev f_P_strings_Builder_String : FuncId := 68
def rc_P_strings_Builder_String : RCode :=
  (.seq
    (.region [⟨some 2, .none, true, 9, .assign (.const (.string { data := #[] }))⟩])
  (.keep [0]
  (.seq
    (.region [⟨some 3, .none, false, 92, .move (.tmp 0)⟩,
      ⟨some 4, .none, false, 0, .nilCheck (.tmp 3)⟩,
      ⟨some 5, .none, false, 0, .fieldAddr 95 (.tmp 4) 1⟩,
      ⟨some 6, .none, false, 93, .load 93 (.tmp 5)⟩,
      ⟨some 7, .none, false, 107, .call { callee := .builtin .unsafeSliceData, args := #[.tmp 6], argTypes := #[93] }⟩,
      ⟨some 8, .none, false, 92, .move (.tmp 0)⟩,
      ⟨some 9, .none, false, 0, .nilCheck (.tmp 8)⟩,
      ⟨some 10, .none, false, 0, .fieldAddr 95 (.tmp 9) 1⟩,
      ⟨some 11, .none, false, 93, .load 93 (.tmp 10)⟩,
      ⟨some 12, .none, false, 3, .call { callee := .builtin .len, args := #[.tmp 11], argTypes := #[93] }⟩,
      ⟨some 13, .none, true, 9, .call { callee := .builtin .unsafeString, args := #[.tmp 7, .tmp 12], argTypes := #[107, 3] }⟩,
      ⟨some 2, .none, true, 9, .assign (.tmp 13)⟩])
  .ret)))
theorem t_P_strings_Builder_String : FnT Tryd.prog f_P_strings_Builder_String rc_P_strings_Builder_String [.tmp 2] 1 := ⟨⟨[], Tryd.f68, _, Tryd.func68, rfl, by kernel_rfl, by kernel_rfl, by kernel_rfl, rfl, by decide⟩, by kernel_rfl⟩
/-- internal/strconv.FormatInt -/
abbrev f_internal_strconv_FormatInt : FuncId := 79
def rc_internal_strconv_FormatInt : RCode :=
  (.seq
    (.region [⟨some 4, .none, true, 9, .assign (.const (.string { data := #[] }))⟩])
  (.keep [0, 1]
  (.seq
    (.seq
      (.region [⟨some 10, .none, true, 3, .move (.tmp 1)⟩,
        ⟨some 11, .none, true, 4, .binOp .eql 3 (.tmp 10) (.const (.int .i64 10)) 3⟩])
    (.keep [0, 1, 11]
    (.cond (.tmp 11)
      (.seq
        (.seq
          (.region [⟨some 12, .none, true, 2, .move (.tmp 0)⟩,
            ⟨some 13, .none, true, 4, .binOp .leq 2 (.const (.int .i64 0)) (.tmp 12) 2⟩,
            ⟨some 14, .none, true, 4, .move (.tmp 13)⟩,
            ⟨some 15, .some 14 true, true, 2, .move (.tmp 0)⟩,
            ⟨some 16, .some 14 true, true, 4, .binOp .lss 2 (.tmp 15) (.const (.int .i64 100)) 2⟩,
            ⟨some 17, .none, true, 4, .pick (.tmp 14) (.tmp 16) (.const (.bool false))⟩])
        (.keep [0, 17]
        (.cond (.tmp 17)
          (.seq
            (.region [⟨some 18, .none, true, 2, .move (.tmp 0)⟩,
              ⟨some 19, .none, true, 9, .call { callee := .value (.func 90), args := #[.tmp 18], argTypes := #[3] }⟩,
              ⟨some 4, .none, true, 9, .assign (.tmp 19)⟩])
          .ret)
          .skip)))
      (.seq
        (.region [⟨some 5, .none, true, 0, .alloc 116⟩])
      (.keep [0, 5]
      (.seq
        (.region [⟨some 20, .none, true, 2, .move (.tmp 0)⟩,
          ⟨some 21, .none, true, 27, .convert 2 27 (.tmp 20)⟩,
          ⟨some 6, .none, true, 27, .assign (.tmp 21)⟩])
      (.keep [0, 5, 6]
      (.seq
        (.seq
          (.region [⟨some 22, .none, true, 2, .move (.tmp 0)⟩,
            ⟨some 23, .none, true, 4, .binOp .lss 2 (.tmp 22) (.const (.int .i64 0)) 2⟩])
        (.keep [0, 5, 6, 23]
        (.cond (.tmp 23)
          (.region [⟨some 24, .none, true, 27, .move (.tmp 6)⟩,
            ⟨some 25, .none, true, 27, .unOp .neg 27 (.tmp 24)⟩,
            ⟨some 6, .none, true, 27, .assign (.tmp 25)⟩])
          .skip)))
      (.seq
        (.region [⟨some 26, .none, true, 27, .move (.tmp 6)⟩,
          ⟨some 27, .none, true, 3, .call { callee := .value (.func 91), args := #[.tmp 26], argTypes := #[27] }⟩,
          ⟨some 7, .none, true, 3, .assign (.tmp 27)⟩])
      (.keep [0, 5, 6, 7]
      (.seq
        (.region [⟨some 28, .none, true, 3, .move (.tmp 7)⟩,
          ⟨some 29, .none, true, 3, .binOp .add 3 (.const (.int .i64 1)) (.tmp 28) 3⟩,
          ⟨some 30, .none, true, 93, .slice 116 (.tmp 5) (some (.const (.int .i64 1))) (some (.tmp 29)) none⟩,
          ⟨some 31, .none, true, 27, .move (.tmp 6)⟩,
          ⟨some 32, .none, true, 0, .call { callee := .value (.func 92), args := #[.tmp 30, .tmp 31], argTypes := #[93, 27] }⟩])
      (.keep [0, 5, 7]
      (.seq
        (.seq
          (.region [⟨some 33, .none, true, 2, .move (.tmp 0)⟩,
            ⟨some 34, .none, true, 4, .binOp .lss 2 (.tmp 33) (.const (.int .i64 0)) 2⟩])
        (.keep [5, 7, 34]
        (.cond (.tmp 34)
          (.seq
            (.region [⟨some 35, .none, true, 0, .indexAddr 116 (.tmp 5) (.const (.int .i64 0))⟩,
              ⟨none, .none, true, 0, .store 5 (.tmp 35) (.const (.int .u8 45))⟩])
          (.keep [5, 7]
          (.seq
            (.region [⟨some 36, .none, true, 3, .move (.tmp 7)⟩,
              ⟨some 37, .none, true, 3, .binOp .add 3 (.const (.int .i64 1)) (.tmp 36) 3⟩,
              ⟨some 38, .none, true, 93, .slice 116 (.tmp 5) none (some (.tmp 37)) none⟩,
              ⟨some 39, .none, true, 9, .convert 93 9 (.tmp 38)⟩,
              ⟨some 4, .none, true, 9, .assign (.tmp 39)⟩])
          .ret)))
          .skip)))
      (.seq
        (.region [⟨some 40, .none, true, 3, .move (.tmp 7)⟩,
          ⟨some 41, .none, true, 3, .binOp .add 3 (.const (.int .i64 1)) (.tmp 40) 3⟩,
          ⟨some 42, .none, true, 93, .slice 116 (.tmp 5) (some (.const (.int .i64 1))) (some (.tmp 41)) none⟩,
          ⟨some 43, .none, true, 9, .convert 93 9 (.tmp 42)⟩,
          ⟨some 4, .none, true, 9, .assign (.tmp 43)⟩])
      .ret))))))))))))
      .skip)))
  (.seq
    (.region [⟨some 45, .none, true, 2, .move (.tmp 0)⟩,
      ⟨some 46, .none, true, 27, .convert 2 27 (.tmp 45)⟩,
      ⟨some 47, .none, true, 3, .move (.tmp 1)⟩,
      ⟨some 48, .none, true, 2, .move (.tmp 0)⟩,
      ⟨some 49, .none, true, 4, .binOp .lss 2 (.tmp 48) (.const (.int .i64 0)) 2⟩,
      ⟨some 50, .none, true, 119, .call { callee := .value (.func 93), args := #[.const (.slice none 0 0), .tmp 46, .tmp 47, .tmp 49, .const (.bool false)], argTypes := #[93, 27, 3, 4, 4] }⟩,
      ⟨some 44, .none, true, 119, .move (.tmp 50)⟩,
      ⟨some 51, .none, true, 93, .extract (.tmp 44) 0⟩,
      ⟨some 52, .none, true, 9, .extract (.tmp 44) 1⟩,
      ⟨some 8, .none, true, 93, .assign (.tmp 51)⟩,
      ⟨some 9, .none, true, 9, .assign (.tmp 52)⟩])
  (.keep [9]
  (.seq
    (.region [⟨some 53, .none, true, 9, .move (.tmp 9)⟩,
      ⟨some 4, .none, true, 9, .assign (.tmp 53)⟩])
  .ret))))))
theorem t_internal_strconv_FormatInt : FnT Tryd.prog f_internal_strconv_FormatInt rc_internal_strconv_FormatInt [.tmp 4] 2 := ⟨⟨[], Tryd.f79, _, Tryd.func79, rfl, by kernel_rfl, by kernel_rfl, by kernel_rfl, rfl, by decide⟩, by kernel_rfl⟩
/-- (*strings.Builder).grow -/
abbrev f_P_strings_Builder_grow : FuncId := 81
def rc_P_strings_Builder_grow : RCode :=
  (.seq
    (.regionD [⟨some 5, .none, 92, .move (.tmp 0), 0, []⟩,
      ⟨some 6, .none, 0, .nilCheck (.tmp 5), 1, []⟩,
      ⟨some 7, .none, 0, .fieldAddr 95 (.tmp 6) 1, 2, []⟩,
      ⟨some 8, .none, 93, .load 93 (.tmp 7), 3, []⟩,
      ⟨some 9, .none, 3, .call { callee := .builtin .cap, args := #[.tmp 8], argTypes := #[93] }, 4, []⟩,
      ⟨some 10, .none, 3, .binOp .mul 3 (.const (.int .i64 2)) (.tmp 9) 3, 5, []⟩,
      ⟨some 11, .none, 3, .move (.tmp 1), 6, []⟩,
      ⟨some 12, .none, 3, .binOp .add 3 (.tmp 10) (.tmp 11) 3, 7, []⟩,
      ⟨some 13, .none, 93, .call { callee := .value (.func 95), args := #[.tmp 12], argTypes := #[3] }, 8, []⟩,
      ⟨some 14, .none, 92, .move (.tmp 0), 9, []⟩,
      ⟨some 15, .none, 0, .nilCheck (.tmp 14), 10, []⟩,
      ⟨some 16, .none, 0, .fieldAddr 95 (.tmp 15) 1, 11, []⟩,
      ⟨some 17, .none, 93, .load 93 (.tmp 16), 12, [4, 8]⟩,
      ⟨some 18, .none, 3, .call { callee := .builtin .len, args := #[.tmp 17], argTypes := #[93] }, 13, []⟩,
      ⟨some 19, .none, 93, .slice 93 (.tmp 13) none (some (.tmp 18)) none, 14, []⟩,
      ⟨some 4, .none, 93, .assign (.tmp 19), 15, []⟩])
  (.keep [0, 4]
  (.seq
    (.region [⟨some 20, .none, true, 93, .move (.tmp 4)⟩,
      ⟨some 21, .none, true, 92, .move (.tmp 0)⟩,
      ⟨some 22, .none, true, 0, .nilCheck (.tmp 21)⟩,
      ⟨some 23, .none, true, 0, .fieldAddr 95 (.tmp 22) 1⟩,
      ⟨some 24, .none, true, 93, .load 93 (.tmp 23)⟩,
      ⟨some 25, .none, true, 3, .call { callee := .builtin .copy, args := #[.tmp 20, .tmp 24], argTypes := #[93, 93] }⟩])
  (.keep [0, 4]
  (.region [⟨some 26, .none, true, 92, .move (.tmp 0)⟩,
    ⟨some 27, .none, true, 93, .move (.tmp 4)⟩,
    ⟨some 28, .none, true, 0, .nilCheck (.tmp 26)⟩,
    ⟨some 29, .none, true, 0, .fieldAddr 95 (.tmp 28) 1⟩,
    ⟨none, .none, true, 0, .store 93 (.tmp 29) (.tmp 27)⟩])))))
theorem t_P_strings_Builder_grow : FnT Tryd.prog f_P_strings_Builder_grow rc_P_strings_Builder_grow [] 2 := ⟨⟨[0], Tryd.f81, _, Tryd.func81, rfl, by kernel_rfl, by kernel_rfl, by kernel_rfl, rfl, by decide⟩, by kernel_rfl⟩
/-- internal/strconv.small -/
abbrev f_internal_strconv_small : FuncId := 90
def rc_internal_strconv_small : RCode :=
  (.seq
    (.region [⟨some 2, .none, true, 9, .assign (.const (.string { data := #[] }))⟩])
  (.keep [0]
  (.seq
    (.seq
      (.region [⟨some 3, .none, true, 3, .move (.tmp 0)⟩,
        ⟨some 4, .none, true, 4, .binOp .lss 3 (.tmp 3) (.const (.int .i64 10)) 3⟩])
    (.keep [0, 4]
    (.cond (.tmp 4)
      (.seq
        (.region [⟨some 5, .none, true, 3, .move (.tmp 0)⟩,
          ⟨some 6, .none, true, 3, .move (.tmp 0)⟩,
          ⟨some 7, .none, true, 3, .binOp .add 3 (.tmp 6) (.const (.int .i64 1)) 3⟩,
          ⟨some 8, .none, true, 9, .slice 9 (.const (.string { data := #[48, 49, 50, 51, 52, 53, 54, 55, 56, 57, 97, 98, 99, 100, 101, 102, 103, 104, 105, 106, 107, 108, 109, 110, 111, 112, 113, 114, 115, 116, 117, 118, 119, 120, 121, 122] })) (some (.tmp 5)) (some (.tmp 7)) none⟩,
          ⟨some 2, .none, true, 9, .assign (.tmp 8)⟩])
      .ret)
      .skip)))
  (.seq
    (.region [⟨some 9, .none, true, 3, .move (.tmp 0)⟩,
      ⟨some 10, .none, true, 3, .binOp .mul 3 (.tmp 9) (.const (.int .i64 2)) 3⟩,
      ⟨some 11, .none, true, 3, .move (.tmp 0)⟩,
      ⟨some 12, .none, true, 3, .binOp .mul 3 (.tmp 11) (.const (.int .i64 2)) 3⟩,
      ⟨some 13, .none, true, 3, .binOp .add 3 (.tmp 12) (.const (.int .i64 2)) 3⟩,
      ⟨some 14, .none, true, 9, .slice 9 (.const (.string { data := #[48, 48, 48, 49, 48, 50, 48, 51, 48, 52, 48, 53, 48, 54, 48, 55, 48, 56, 48, 57, 49, 48, 49, 49, 49, 50, 49, 51, 49, 52, 49, 53, 49, 54, 49, 55, 49, 56, 49, 57, 50, 48, 50, 49, 50, 50, 50, 51, 50, 52, 50, 53, 50, 54, 50, 55, 50, 56, 50, 57, 51, 48, 51, 49, 51, 50, 51, 51, 51, 52, 51, 53, 51, 54, 51, 55, 51, 56, 51, 57, 52, 48, 52, 49, 52, 50, 52, 51, 52, 52, 52, 53, 52, 54, 52, 55, 52, 56, 52, 57, 53, 48, 53, 49, 53, 50, 53, 51, 53, 52, 53, 53, 53, 54, 53, 55, 53, 56, 53, 57, 54, 48, 54, 49, 54, 50, 54, 51, 54, 52, 54, 53, 54, 54, 54, 55, 54, 56, 54, 57, 55, 48, 55, 49, 55, 50, 55, 51, 55, 52, 55, 53, 55, 54, 55, 55, 55, 56, 55, 57, 56, 48, 56, 49, 56, 50, 56, 51, 56, 52, 56, 53, 56, 54, 56, 55, 56, 56, 56, 57, 57, 48, 57, 49, 57, 50, 57, 51, 57, 52, 57, 53, 57, 54, 57, 55, 57, 56, 57, 57] })) (some (.tmp 10)) (some (.tmp 13)) none⟩,
      ⟨some 2, .none, true, 9, .assign (.tmp 14)⟩])
  .ret))))
theorem t_internal_strconv_small : FnT Tryd.prog f_internal_strconv_small rc_internal_strconv_small [.tmp 2] 1 := ⟨⟨[], Tryd.f90, _, Tryd.func90, rfl, by kernel_rfl, by kernel_rfl, by kernel_rfl, rfl, by decide⟩, by kernel_rfl⟩
/-- internal/strconv.numDigits -/
abbrev f_internal_strconv_numDigits : FuncId := 91
def rc_internal_strconv_numDigits : RCode :=
  (.seq
    (.region [⟨some 2, .none, true, 3, .assign (.const (.int .i64 0))⟩])
  (.keep [0]
  (.seq
    (.region [⟨some 4, .none, true, 27, .move (.tmp 0)⟩,
      ⟨some 5, .none, true, 3, .call { callee := .value (.func 104), args := #[.tmp 4], argTypes := #[27] }⟩,
      ⟨some 6, .none, true, 3, .call { callee := .value (.func 103), args := #[.tmp 5], argTypes := #[3] }⟩,
      ⟨some 3, .none, true, 3, .assign (.tmp 6)⟩])
  (.keep [0, 3]
  (.seq
    (.region [⟨some 7, .none, true, 3, .move (.tmp 3)⟩,
      ⟨some 8, .none, true, 27, .move (.tmp 0)⟩,
      ⟨some 9, .none, true, 3, .move (.tmp 3)⟩,
      ⟨some 10, .none, true, 0, .indexAddr 135 (.global 2) (.tmp 9)⟩,
      ⟨some 11, .none, true, 27, .load 27 (.tmp 10)⟩,
      ⟨some 12, .none, true, 4, .binOp .geq 27 (.tmp 8) (.tmp 11) 27⟩,
      ⟨some 13, .none, true, 3, .call { callee := .value (.func 105), args := #[.tmp 12], argTypes := #[4] }⟩,
      ⟨some 14, .none, true, 3, .binOp .add 3 (.tmp 7) (.tmp 13) 3⟩,
      ⟨some 2, .none, true, 3, .assign (.tmp 14)⟩])
  .ret)))))
theorem t_internal_strconv_numDigits : FnT Tryd.prog f_internal_strconv_numDigits rc_internal_strconv_numDigits [.tmp 2] 1 := ⟨⟨[], Tryd.f91, _, Tryd.func91, rfl, by kernel_rfl, by kernel_rfl, by kernel_rfl, rfl, by decide⟩, by kernel_rfl⟩
/-- internal/strconv.formatBase10 -/
abbrev f_internal_strconv_formatBase10 : FuncId := 92
def rc_internal_strconv_formatBase10l0 : RCode :=
  (.seq
    (.seq
      (.region [⟨some 19, .none, true, 3, .move (.tmp 4)⟩,
        ⟨some 20, .none, true, 4, .binOp .geq 3 (.tmp 19) (.const (.int .i64 8)) 3⟩])
    (.keep [0, 1, 4, 20]
    (.cond (.tmp 20)
      .skip
      (.exit 0))))
  (.block 1
    (.seq
      (.region [⟨some 21, .none, true, 27, .move (.tmp 1)⟩,
        ⟨some 22, .none, true, 27, .binOp .rem 27 (.tmp 21) (.const (.int .u64 100000000)) 27⟩,
        ⟨some 23, .none, true, 136, .convert 27 136 (.tmp 22)⟩,
        ⟨some 5, .none, true, 136, .assign (.tmp 23)⟩])
    (.keep [0, 1, 4, 5]
    (.seq
      (.region [⟨some 24, .none, true, 27, .move (.tmp 1)⟩,
        ⟨some 25, .none, true, 27, .binOp .quo 27 (.tmp 24) (.const (.int .u64 100000000)) 27⟩,
        ⟨some 1, .none, true, 27, .assign (.tmp 25)⟩])
    (.keep [0, 1, 4, 5]
    (.seq
      (.region [⟨some 26, .none, true, 136, .move (.tmp 5)⟩,
        ⟨some 27, .none, true, 136, .binOp .quo 136 (.tmp 26) (.const (.int .u32 10000)) 136⟩,
        ⟨some 28, .none, true, 136, .move (.tmp 5)⟩,
        ⟨some 29, .none, true, 136, .binOp .rem 136 (.tmp 28) (.const (.int .u32 10000)) 136⟩,
        ⟨some 6, .none, true, 136, .assign (.tmp 27)⟩,
        ⟨some 7, .none, true, 136, .assign (.tmp 29)⟩])
    (.keep [0, 1, 4, 6, 7]
    (.seq
      (.region [⟨some 30, .none, true, 136, .move (.tmp 7)⟩,
        ⟨some 31, .none, true, 136, .binOp .quo 136 (.tmp 30) (.const (.int .u32 100)) 136⟩,
        ⟨some 32, .none, true, 136, .binOp .mul 136 (.tmp 31) (.const (.int .u32 2)) 136⟩,
        ⟨some 33, .none, true, 136, .move (.tmp 7)⟩,
        ⟨some 34, .none, true, 136, .binOp .rem 136 (.tmp 33) (.const (.int .u32 100)) 136⟩,
        ⟨some 35, .none, true, 136, .binOp .mul 136 (.tmp 34) (.const (.int .u32 2)) 136⟩,
        ⟨some 8, .none, true, 136, .assign (.tmp 32)⟩,
        ⟨some 9, .none, true, 136, .assign (.tmp 35)⟩])
    (.keep [0, 1, 4, 6, 8, 9]
    (.seq
      (.region [⟨some 36, .none, true, 136, .move (.tmp 6)⟩,
        ⟨some 37, .none, true, 136, .binOp .quo 136 (.tmp 36) (.const (.int .u32 100)) 136⟩,
        ⟨some 38, .none, true, 136, .binOp .mul 136 (.tmp 37) (.const (.int .u32 2)) 136⟩,
        ⟨some 39, .none, true, 136, .move (.tmp 6)⟩,
        ⟨some 40, .none, true, 136, .binOp .rem 136 (.tmp 39) (.const (.int .u32 100)) 136⟩,
        ⟨some 41, .none, true, 136, .binOp .mul 136 (.tmp 40) (.const (.int .u32 2)) 136⟩,
        ⟨some 10, .none, true, 136, .assign (.tmp 38)⟩,
        ⟨some 11, .none, true, 136, .assign (.tmp 41)⟩])
    (.keep [0, 1, 4, 8, 9, 10, 11]
    (.seq
      (.region [⟨some 42, .none, true, 93, .move (.tmp 0)⟩,
        ⟨some 43, .none, true, 3, .move (.tmp 4)⟩,
        ⟨some 44, .none, true, 3, .binOp .sub 3 (.tmp 43) (.const (.int .i64 1)) 3⟩,
        ⟨some 45, .none, false, 93, .move (.tmp 0)⟩,
        ⟨some 46, .none, false, 3, .move (.tmp 4)⟩,
        ⟨some 47, .none, false, 3, .binOp .sub 3 (.tmp 46) (.const (.int .i64 2)) 3⟩,
        ⟨some 48, .none, true, 136, .move (.tmp 9)⟩,
        ⟨some 49, .none, true, 136, .binOp .add 136 (.tmp 48) (.const (.int .u32 1)) 136⟩,
        ⟨some 50, .none, true, 5, .index 9 (.const (.string { data := #[48, 48, 48, 49, 48, 50, 48, 51, 48, 52, 48, 53, 48, 54, 48, 55, 48, 56, 48, 57, 49, 48, 49, 49, 49, 50, 49, 51, 49, 52, 49, 53, 49, 54, 49, 55, 49, 56, 49, 57, 50, 48, 50, 49, 50, 50, 50, 51, 50, 52, 50, 53, 50, 54, 50, 55, 50, 56, 50, 57, 51, 48, 51, 49, 51, 50, 51, 51, 51, 52, 51, 53, 51, 54, 51, 55, 51, 56, 51, 57, 52, 48, 52, 49, 52, 50, 52, 51, 52, 52, 52, 53, 52, 54, 52, 55, 52, 56, 52, 57, 53, 48, 53, 49, 53, 50, 53, 51, 53, 52, 53, 53, 53, 54, 53, 55, 53, 56, 53, 57, 54, 48, 54, 49, 54, 50, 54, 51, 54, 52, 54, 53, 54, 54, 54, 55, 54, 56, 54, 57, 55, 48, 55, 49, 55, 50, 55, 51, 55, 52, 55, 53, 55, 54, 55, 55, 55, 56, 55, 57, 56, 48, 56, 49, 56, 50, 56, 51, 56, 52, 56, 53, 56, 54, 56, 55, 56, 56, 56, 57, 57, 48, 57, 49, 57, 50, 57, 51, 57, 52, 57, 53, 57, 54, 57, 55, 57, 56, 57, 57] })) (.tmp 49)⟩,
        ⟨some 51, .none, false, 136, .move (.tmp 9)⟩,
        ⟨some 52, .none, false, 5, .index 9 (.const (.string { data := #[48, 48, 48, 49, 48, 50, 48, 51, 48, 52, 48, 53, 48, 54, 48, 55, 48, 56, 48, 57, 49, 48, 49, 49, 49, 50, 49, 51, 49, 52, 49, 53, 49, 54, 49, 55, 49, 56, 49, 57, 50, 48, 50, 49, 50, 50, 50, 51, 50, 52, 50, 53, 50, 54, 50, 55, 50, 56, 50, 57, 51, 48, 51, 49, 51, 50, 51, 51, 51, 52, 51, 53, 51, 54, 51, 55, 51, 56, 51, 57, 52, 48, 52, 49, 52, 50, 52, 51, 52, 52, 52, 53, 52, 54, 52, 55, 52, 56, 52, 57, 53, 48, 53, 49, 53, 50, 53, 51, 53, 52, 53, 53, 53, 54, 53, 55, 53, 56, 53, 57, 54, 48, 54, 49, 54, 50, 54, 51, 54, 52, 54, 53, 54, 54, 54, 55, 54, 56, 54, 57, 55, 48, 55, 49, 55, 50, 55, 51, 55, 52, 55, 53, 55, 54, 55, 55, 55, 56, 55, 57, 56, 48, 56, 49, 56, 50, 56, 51, 56, 52, 56, 53, 56, 54, 56, 55, 56, 56, 56, 57, 57, 48, 57, 49, 57, 50, 57, 51, 57, 52, 57, 53, 57, 54, 57, 55, 57, 56, 57, 57] })) (.tmp 51)⟩,
        ⟨some 53, .none, true, 0, .indexAddr 93 (.tmp 42) (.tmp 44)⟩,
        ⟨none, .none, true, 0, .store 5 (.tmp 53) (.tmp 50)⟩,
        ⟨some 54, .none, true, 0, .indexAddr 93 (.tmp 45) (.tmp 47)⟩,
        ⟨none, .none, true, 0, .store 5 (.tmp 54) (.tmp 52)⟩])
    (.keep [0, 1, 4, 8, 10, 11]
    (.seq
      (.region [⟨some 55, .none, true, 93, .move (.tmp 0)⟩,
        ⟨some 56, .none, true, 3, .move (.tmp 4)⟩,
        ⟨some 57, .none, true, 3, .binOp .sub 3 (.tmp 56) (.const (.int .i64 3)) 3⟩,
        ⟨some 58, .none, false, 93, .move (.tmp 0)⟩,
        ⟨some 59, .none, false, 3, .move (.tmp 4)⟩,
        ⟨some 60, .none, false, 3, .binOp .sub 3 (.tmp 59) (.const (.int .i64 4)) 3⟩,
        ⟨some 61, .none, true, 136, .move (.tmp 8)⟩,
        ⟨some 62, .none, true, 136, .binOp .add 136 (.tmp 61) (.const (.int .u32 1)) 136⟩,
        ⟨some 63, .none, true, 5, .index 9 (.const (.string { data := #[48, 48, 48, 49, 48, 50, 48, 51, 48, 52, 48, 53, 48, 54, 48, 55, 48, 56, 48, 57, 49, 48, 49, 49, 49, 50, 49, 51, 49, 52, 49, 53, 49, 54, 49, 55, 49, 56, 49, 57, 50, 48, 50, 49, 50, 50, 50, 51, 50, 52, 50, 53, 50, 54, 50, 55, 50, 56, 50, 57, 51, 48, 51, 49, 51, 50, 51, 51, 51, 52, 51, 53, 51, 54, 51, 55, 51, 56, 51, 57, 52, 48, 52, 49, 52, 50, 52, 51, 52, 52, 52, 53, 52, 54, 52, 55, 52, 56, 52, 57, 53, 48, 53, 49, 53, 50, 53, 51, 53, 52, 53, 53, 53, 54, 53, 55, 53, 56, 53, 57, 54, 48, 54, 49, 54, 50, 54, 51, 54, 52, 54, 53, 54, 54, 54, 55, 54, 56, 54, 57, 55, 48, 55, 49, 55, 50, 55, 51, 55, 52, 55, 53, 55, 54, 55, 55, 55, 56, 55, 57, 56, 48, 56, 49, 56, 50, 56, 51, 56, 52, 56, 53, 56, 54, 56, 55, 56, 56, 56, 57, 57, 48, 57, 49, 57, 50, 57, 51, 57, 52, 57, 53, 57, 54, 57, 55, 57, 56, 57, 57] })) (.tmp 62)⟩,
        ⟨some 64, .none, false, 136, .move (.tmp 8)⟩,
        ⟨some 65, .none, false, 5, .index 9 (.const (.string { data := #[48, 48, 48, 49, 48, 50, 48, 51, 48, 52, 48, 53, 48, 54, 48, 55, 48, 56, 48, 57, 49, 48, 49, 49, 49, 50, 49, 51, 49, 52, 49, 53, 49, 54, 49, 55, 49, 56, 49, 57, 50, 48, 50, 49, 50, 50, 50, 51, 50, 52, 50, 53, 50, 54, 50, 55, 50, 56, 50, 57, 51, 48, 51, 49, 51, 50, 51, 51, 51, 52, 51, 53, 51, 54, 51, 55, 51, 56, 51, 57, 52, 48, 52, 49, 52, 50, 52, 51, 52, 52, 52, 53, 52, 54, 52, 55, 52, 56, 52, 57, 53, 48, 53, 49, 53, 50, 53, 51, 53, 52, 53, 53, 53, 54, 53, 55, 53, 56, 53, 57, 54, 48, 54, 49, 54, 50, 54, 51, 54, 52, 54, 53, 54, 54, 54, 55, 54, 56, 54, 57, 55, 48, 55, 49, 55, 50, 55, 51, 55, 52, 55, 53, 55, 54, 55, 55, 55, 56, 55, 57, 56, 48, 56, 49, 56, 50, 56, 51, 56, 52, 56, 53, 56, 54, 56, 55, 56, 56, 56, 57, 57, 48, 57, 49, 57, 50, 57, 51, 57, 52, 57, 53, 57, 54, 57, 55, 57, 56, 57, 57] })) (.tmp 64)⟩,
        ⟨some 66, .none, true, 0, .indexAddr 93 (.tmp 55) (.tmp 57)⟩,
        ⟨none, .none, true, 0, .store 5 (.tmp 66) (.tmp 63)⟩,
        ⟨some 67, .none, true, 0, .indexAddr 93 (.tmp 58) (.tmp 60)⟩,
        ⟨none, .none, true, 0, .store 5 (.tmp 67) (.tmp 65)⟩])
    (.keep [0, 1, 4, 10, 11]
    (.seq
      (.region [⟨some 68, .none, true, 93, .move (.tmp 0)⟩,
        ⟨some 69, .none, true, 3, .move (.tmp 4)⟩,
        ⟨some 70, .none, true, 3, .binOp .sub 3 (.tmp 69) (.const (.int .i64 5)) 3⟩,
        ⟨some 71, .none, false, 93, .move (.tmp 0)⟩,
        ⟨some 72, .none, false, 3, .move (.tmp 4)⟩,
        ⟨some 73, .none, false, 3, .binOp .sub 3 (.tmp 72) (.const (.int .i64 6)) 3⟩,
        ⟨some 74, .none, true, 136, .move (.tmp 11)⟩,
        ⟨some 75, .none, true, 136, .binOp .add 136 (.tmp 74) (.const (.int .u32 1)) 136⟩,
        ⟨some 76, .none, true, 5, .index 9 (.const (.string { data := #[48, 48, 48, 49, 48, 50, 48, 51, 48, 52, 48, 53, 48, 54, 48, 55, 48, 56, 48, 57, 49, 48, 49, 49, 49, 50, 49, 51, 49, 52, 49, 53, 49, 54, 49, 55, 49, 56, 49, 57, 50, 48, 50, 49, 50, 50, 50, 51, 50, 52, 50, 53, 50, 54, 50, 55, 50, 56, 50, 57, 51, 48, 51, 49, 51, 50, 51, 51, 51, 52, 51, 53, 51, 54, 51, 55, 51, 56, 51, 57, 52, 48, 52, 49, 52, 50, 52, 51, 52, 52, 52, 53, 52, 54, 52, 55, 52, 56, 52, 57, 53, 48, 53, 49, 53, 50, 53, 51, 53, 52, 53, 53, 53, 54, 53, 55, 53, 56, 53, 57, 54, 48, 54, 49, 54, 50, 54, 51, 54, 52, 54, 53, 54, 54, 54, 55, 54, 56, 54, 57, 55, 48, 55, 49, 55, 50, 55, 51, 55, 52, 55, 53, 55, 54, 55, 55, 55, 56, 55, 57, 56, 48, 56, 49, 56, 50, 56, 51, 56, 52, 56, 53, 56, 54, 56, 55, 56, 56, 56, 57, 57, 48, 57, 49, 57, 50, 57, 51, 57, 52, 57, 53, 57, 54, 57, 55, 57, 56, 57, 57] })) (.tmp 75)⟩,
        ⟨some 77, .none, false, 136, .move (.tmp 11)⟩,
        ⟨some 78, .none, false, 5, .index 9 (.const (.string { data := #[48, 48, 48, 49, 48, 50, 48, 51, 48, 52, 48, 53, 48, 54, 48, 55, 48, 56, 48, 57, 49, 48, 49, 49, 49, 50, 49, 51, 49, 52, 49, 53, 49, 54, 49, 55, 49, 56, 49, 57, 50, 48, 50, 49, 50, 50, 50, 51, 50, 52, 50, 53, 50, 54, 50, 55, 50, 56, 50, 57, 51, 48, 51, 49, 51, 50, 51, 51, 51, 52, 51, 53, 51, 54, 51, 55, 51, 56, 51, 57, 52, 48, 52, 49, 52, 50, 52, 51, 52, 52, 52, 53, 52, 54, 52, 55, 52, 56, 52, 57, 53, 48, 53, 49, 53, 50, 53, 51, 53, 52, 53, 53, 53, 54, 53, 55, 53, 56, 53, 57, 54, 48, 54, 49, 54, 50, 54, 51, 54, 52, 54, 53, 54, 54, 54, 55, 54, 56, 54, 57, 55, 48, 55, 49, 55, 50, 55, 51, 55, 52, 55, 53, 55, 54, 55, 55, 55, 56, 55, 57, 56, 48, 56, 49, 56, 50, 56, 51, 56, 52, 56, 53, 56, 54, 56, 55, 56, 56, 56, 57, 57, 48, 57, 49, 57, 50, 57, 51, 57, 52, 57, 53, 57, 54, 57, 55, 57, 56, 57, 57] })) (.tmp 77)⟩,
        ⟨some 79, .none, true, 0, .indexAddr 93 (.tmp 68) (.tmp 70)⟩,
        ⟨none, .none, true, 0, .store 5 (.tmp 79) (.tmp 76)⟩,
        ⟨some 80, .none, true, 0, .indexAddr 93 (.tmp 71) (.tmp 73)⟩,
        ⟨none, .none, true, 0, .store 5 (.tmp 80) (.tmp 78)⟩])
    (.keep [0, 1, 4, 10]
    (.seq
      (.region [⟨some 81, .none, true, 93, .move (.tmp 0)⟩,
        ⟨some 82, .none, true, 3, .move (.tmp 4)⟩,
        ⟨some 83, .none, true, 3, .binOp .sub 3 (.tmp 82) (.const (.int .i64 7)) 3⟩,
        ⟨some 84, .none, false, 93, .move (.tmp 0)⟩,
        ⟨some 85, .none, false, 3, .move (.tmp 4)⟩,
        ⟨some 86, .none, false, 3, .binOp .sub 3 (.tmp 85) (.const (.int .i64 8)) 3⟩,
        ⟨some 87, .none, true, 136, .move (.tmp 10)⟩,
        ⟨some 88, .none, true, 136, .binOp .add 136 (.tmp 87) (.const (.int .u32 1)) 136⟩,
        ⟨some 89, .none, true, 5, .index 9 (.const (.string { data := #[48, 48, 48, 49, 48, 50, 48, 51, 48, 52, 48, 53, 48, 54, 48, 55, 48, 56, 48, 57, 49, 48, 49, 49, 49, 50, 49, 51, 49, 52, 49, 53, 49, 54, 49, 55, 49, 56, 49, 57, 50, 48, 50, 49, 50, 50, 50, 51, 50, 52, 50, 53, 50, 54, 50, 55, 50, 56, 50, 57, 51, 48, 51, 49, 51, 50, 51, 51, 51, 52, 51, 53, 51, 54, 51, 55, 51, 56, 51, 57, 52, 48, 52, 49, 52, 50, 52, 51, 52, 52, 52, 53, 52, 54, 52, 55, 52, 56, 52, 57, 53, 48, 53, 49, 53, 50, 53, 51, 53, 52, 53, 53, 53, 54, 53, 55, 53, 56, 53, 57, 54, 48, 54, 49, 54, 50, 54, 51, 54, 52, 54, 53, 54, 54, 54, 55, 54, 56, 54, 57, 55, 48, 55, 49, 55, 50, 55, 51, 55, 52, 55, 53, 55, 54, 55, 55, 55, 56, 55, 57, 56, 48, 56, 49, 56, 50, 56, 51, 56, 52, 56, 53, 56, 54, 56, 55, 56, 56, 56, 57, 57, 48, 57, 49, 57, 50, 57, 51, 57, 52, 57, 53, 57, 54, 57, 55, 57, 56, 57, 57] })) (.tmp 88)⟩,
        ⟨some 90, .none, false, 136, .move (.tmp 10)⟩,
        ⟨some 91, .none, false, 5, .index 9 (.const (.string { data := #[48, 48, 48, 49, 48, 50, 48, 51, 48, 52, 48, 53, 48, 54, 48, 55, 48, 56, 48, 57, 49, 48, 49, 49, 49, 50, 49, 51, 49, 52, 49, 53, 49, 54, 49, 55, 49, 56, 49, 57, 50, 48, 50, 49, 50, 50, 50, 51, 50, 52, 50, 53, 50, 54, 50, 55, 50, 56, 50, 57, 51, 48, 51, 49, 51, 50, 51, 51, 51, 52, 51, 53, 51, 54, 51, 55, 51, 56, 51, 57, 52, 48, 52, 49, 52, 50, 52, 51, 52, 52, 52, 53, 52, 54, 52, 55, 52, 56, 52, 57, 53, 48, 53, 49, 53, 50, 53, 51, 53, 52, 53, 53, 53, 54, 53, 55, 53, 56, 53, 57, 54, 48, 54, 49, 54, 50, 54, 51, 54, 52, 54, 53, 54, 54, 54, 55, 54, 56, 54, 57, 55, 48, 55, 49, 55, 50, 55, 51, 55, 52, 55, 53, 55, 54, 55, 55, 55, 56, 55, 57, 56, 48, 56, 49, 56, 50, 56, 51, 56, 52, 56, 53, 56, 54, 56, 55, 56, 56, 56, 57, 57, 48, 57, 49, 57, 50, 57, 51, 57, 52, 57, 53, 57, 54, 57, 55, 57, 56, 57, 57] })) (.tmp 90)⟩,
        ⟨some 92, .none, true, 0, .indexAddr 93 (.tmp 81) (.tmp 83)⟩,
        ⟨none, .none, true, 0, .store 5 (.tmp 92) (.tmp 89)⟩,
        ⟨some 93, .none, true, 0, .indexAddr 93 (.tmp 84) (.tmp 86)⟩,
        ⟨none, .none, true, 0, .store 5 (.tmp 93) (.tmp 91)⟩])
    (.keep [0, 1, 4]
    (.region [⟨some 94, .none, true, 3, .move (.tmp 4)⟩,
      ⟨some 95, .none, true, 3, .binOp .sub 3 (.tmp 94) (.const (.int .i64 8)) 3⟩,
      ⟨some 4, .none, true, 3, .assign (.tmp 95)⟩])))))))))))))))))))))
def rc_internal_strconv_formatBase10 : RCode :=
  (.seq
    (.region [⟨some 17, .none, true, 93, .move (.tmp 0)⟩,
      ⟨some 18, .none, true, 3, .call { callee := .builtin .len, args := #[.tmp 17], argTypes := #[93] }⟩,
      ⟨some 4, .none, true, 3, .assign (.tmp 18)⟩])
  (.keep [0, 1, 4]
  (.seq
    (.block 0
      (.loop [0, 1, 4] rc_internal_strconv_formatBase10l0))
  (.keep [0, 1, 4]
  (.seq
    (.region [⟨some 96, .none, true, 27, .move (.tmp 1)⟩,
      ⟨some 97, .none, true, 136, .convert 27 136 (.tmp 96)⟩,
      ⟨some 12, .none, true, 136, .assign (.tmp 97)⟩])
  (.keep [0, 4, 12]
  (.seq
    (.seq
      (.region [⟨some 98, .none, true, 3, .move (.tmp 4)⟩,
        ⟨some 99, .none, true, 4, .binOp .geq 3 (.tmp 98) (.const (.int .i64 4)) 3⟩])
    (.keep [0, 4, 12, 99]
    (.cond (.tmp 99)
      (.seq
        (.region [⟨some 100, .none, true, 136, .move (.tmp 12)⟩,
          ⟨some 101, .none, true, 136, .binOp .rem 136 (.tmp 100) (.const (.int .u32 10000)) 136⟩,
          ⟨some 13, .none, true, 136, .assign (.tmp 101)⟩])
      (.keep [0, 4, 12, 13]
      (.seq
        (.region [⟨some 102, .none, true, 136, .move (.tmp 12)⟩,
          ⟨some 103, .none, true, 136, .binOp .quo 136 (.tmp 102) (.const (.int .u32 10000)) 136⟩,
          ⟨some 12, .none, true, 136, .assign (.tmp 103)⟩])
      (.keep [0, 4, 12, 13]
      (.seq
        (.region [⟨some 104, .none, true, 136, .move (.tmp 13)⟩,
          ⟨some 105, .none, true, 136, .binOp .quo 136 (.tmp 104) (.const (.int .u32 100)) 136⟩,
          ⟨some 106, .none, true, 136, .binOp .mul 136 (.tmp 105) (.const (.int .u32 2)) 136⟩,
          ⟨some 107, .none, true, 136, .move (.tmp 13)⟩,
          ⟨some 108, .none, true, 136, .binOp .rem 136 (.tmp 107) (.const (.int .u32 100)) 136⟩,
          ⟨some 109, .none, true, 136, .binOp .mul 136 (.tmp 108) (.const (.int .u32 2)) 136⟩,
          ⟨some 14, .none, true, 136, .assign (.tmp 106)⟩,
          ⟨some 15, .none, true, 136, .assign (.tmp 109)⟩])
      (.keep [0, 4, 12, 14, 15]
      (.seq
        (.region [⟨some 110, .none, true, 93, .move (.tmp 0)⟩,
          ⟨some 111, .none, true, 3, .move (.tmp 4)⟩,
          ⟨some 112, .none, true, 3, .binOp .sub 3 (.tmp 111) (.const (.int .i64 1)) 3⟩,
          ⟨some 113, .none, false, 93, .move (.tmp 0)⟩,
          ⟨some 114, .none, false, 3, .move (.tmp 4)⟩,
          ⟨some 115, .none, false, 3, .binOp .sub 3 (.tmp 114) (.const (.int .i64 2)) 3⟩,
          ⟨some 116, .none, true, 136, .move (.tmp 15)⟩,
          ⟨some 117, .none, true, 136, .binOp .add 136 (.tmp 116) (.const (.int .u32 1)) 136⟩,
          ⟨some 118, .none, true, 5, .index 9 (.const (.string { data := #[48, 48, 48, 49, 48, 50, 48, 51, 48, 52, 48, 53, 48, 54, 48, 55, 48, 56, 48, 57, 49, 48, 49, 49, 49, 50, 49, 51, 49, 52, 49, 53, 49, 54, 49, 55, 49, 56, 49, 57, 50, 48, 50, 49, 50, 50, 50, 51, 50, 52, 50, 53, 50, 54, 50, 55, 50, 56, 50, 57, 51, 48, 51, 49, 51, 50, 51, 51, 51, 52, 51, 53, 51, 54, 51, 55, 51, 56, 51, 57, 52, 48, 52, 49, 52, 50, 52, 51, 52, 52, 52, 53, 52, 54, 52, 55, 52, 56, 52, 57, 53, 48, 53, 49, 53, 50, 53, 51, 53, 52, 53, 53, 53, 54, 53, 55, 53, 56, 53, 57, 54, 48, 54, 49, 54, 50, 54, 51, 54, 52, 54, 53, 54, 54, 54, 55, 54, 56, 54, 57, 55, 48, 55, 49, 55, 50, 55, 51, 55, 52, 55, 53, 55, 54, 55, 55, 55, 56, 55, 57, 56, 48, 56, 49, 56, 50, 56, 51, 56, 52, 56, 53, 56, 54, 56, 55, 56, 56, 56, 57, 57, 48, 57, 49, 57, 50, 57, 51, 57, 52, 57, 53, 57, 54, 57, 55, 57, 56, 57, 57] })) (.tmp 117)⟩,
          ⟨some 119, .none, false, 136, .move (.tmp 15)⟩,
          ⟨some 120, .none, false, 5, .index 9 (.const (.string { data := #[48, 48, 48, 49, 48, 50, 48, 51, 48, 52, 48, 53, 48, 54, 48, 55, 48, 56, 48, 57, 49, 48, 49, 49, 49, 50, 49, 51, 49, 52, 49, 53, 49, 54, 49, 55, 49, 56, 49, 57, 50, 48, 50, 49, 50, 50, 50, 51, 50, 52, 50, 53, 50, 54, 50, 55, 50, 56, 50, 57, 51, 48, 51, 49, 51, 50, 51, 51, 51, 52, 51, 53, 51, 54, 51, 55, 51, 56, 51, 57, 52, 48, 52, 49, 52, 50, 52, 51, 52, 52, 52, 53, 52, 54, 52, 55, 52, 56, 52, 57, 53, 48, 53, 49, 53, 50, 53, 51, 53, 52, 53, 53, 53, 54, 53, 55, 53, 56, 53, 57, 54, 48, 54, 49, 54, 50, 54, 51, 54, 52, 54, 53, 54, 54, 54, 55, 54, 56, 54, 57, 55, 48, 55, 49, 55, 50, 55, 51, 55, 52, 55, 53, 55, 54, 55, 55, 55, 56, 55, 57, 56, 48, 56, 49, 56, 50, 56, 51, 56, 52, 56, 53, 56, 54, 56, 55, 56, 56, 56, 57, 57, 48, 57, 49, 57, 50, 57, 51, 57, 52, 57, 53, 57, 54, 57, 55, 57, 56, 57, 57] })) (.tmp 119)⟩,
          ⟨some 121, .none, true, 0, .indexAddr 93 (.tmp 110) (.tmp 112)⟩,
          ⟨none, .none, true, 0, .store 5 (.tmp 121) (.tmp 118)⟩,
          ⟨some 122, .none, true, 0, .indexAddr 93 (.tmp 113) (.tmp 115)⟩,
          ⟨none, .none, true, 0, .store 5 (.tmp 122) (.tmp 120)⟩])
      (.keep [0, 4, 12, 14]
      (.seq
        (.region [⟨some 123, .none, true, 93, .move (.tmp 0)⟩,
          ⟨some 124, .none, true, 3, .move (.tmp 4)⟩,
          ⟨some 125, .none, true, 3, .binOp .sub 3 (.tmp 124) (.const (.int .i64 3)) 3⟩,
          ⟨some 126, .none, false, 93, .move (.tmp 0)⟩,
          ⟨some 127, .none, false, 3, .move (.tmp 4)⟩,
          ⟨some 128, .none, false, 3, .binOp .sub 3 (.tmp 127) (.const (.int .i64 4)) 3⟩,
          ⟨some 129, .none, true, 136, .move (.tmp 14)⟩,
          ⟨some 130, .none, true, 136, .binOp .add 136 (.tmp 129) (.const (.int .u32 1)) 136⟩,
          ⟨some 131, .none, true, 5, .index 9 (.const (.string { data := #[48, 48, 48, 49, 48, 50, 48, 51, 48, 52, 48, 53, 48, 54, 48, 55, 48, 56, 48, 57, 49, 48, 49, 49, 49, 50, 49, 51, 49, 52, 49, 53, 49, 54, 49, 55, 49, 56, 49, 57, 50, 48, 50, 49, 50, 50, 50, 51, 50, 52, 50, 53, 50, 54, 50, 55, 50, 56, 50, 57, 51, 48, 51, 49, 51, 50, 51, 51, 51, 52, 51, 53, 51, 54, 51, 55, 51, 56, 51, 57, 52, 48, 52, 49, 52, 50, 52, 51, 52, 52, 52, 53, 52, 54, 52, 55, 52, 56, 52, 57, 53, 48, 53, 49, 53, 50, 53, 51, 53, 52, 53, 53, 53, 54, 53, 55, 53, 56, 53, 57, 54, 48, 54, 49, 54, 50, 54, 51, 54, 52, 54, 53, 54, 54, 54, 55, 54, 56, 54, 57, 55, 48, 55, 49, 55, 50, 55, 51, 55, 52, 55, 53, 55, 54, 55, 55, 55, 56, 55, 57, 56, 48, 56, 49, 56, 50, 56, 51, 56, 52, 56, 53, 56, 54, 56, 55, 56, 56, 56, 57, 57, 48, 57, 49, 57, 50, 57, 51, 57, 52, 57, 53, 57, 54, 57, 55, 57, 56, 57, 57] })) (.tmp 130)⟩,
          ⟨some 132, .none, false, 136, .move (.tmp 14)⟩,
          ⟨some 133, .none, false, 5, .index 9 (.const (.string { data := #[48, 48, 48, 49, 48, 50, 48, 51, 48, 52, 48, 53, 48, 54, 48, 55, 48, 56, 48, 57, 49, 48, 49, 49, 49, 50, 49, 51, 49, 52, 49, 53, 49, 54, 49, 55, 49, 56, 49, 57, 50, 48, 50, 49, 50, 50, 50, 51, 50, 52, 50, 53, 50, 54, 50, 55, 50, 56, 50, 57, 51, 48, 51, 49, 51, 50, 51, 51, 51, 52, 51, 53, 51, 54, 51, 55, 51, 56, 51, 57, 52, 48, 52, 49, 52, 50, 52, 51, 52, 52, 52, 53, 52, 54, 52, 55, 52, 56, 52, 57, 53, 48, 53, 49, 53, 50, 53, 51, 53, 52, 53, 53, 53, 54, 53, 55, 53, 56, 53, 57, 54, 48, 54, 49, 54, 50, 54, 51, 54, 52, 54, 53, 54, 54, 54, 55, 54, 56, 54, 57, 55, 48, 55, 49, 55, 50, 55, 51, 55, 52, 55, 53, 55, 54, 55, 55, 55, 56, 55, 57, 56, 48, 56, 49, 56, 50, 56, 51, 56, 52, 56, 53, 56, 54, 56, 55, 56, 56, 56, 57, 57, 48, 57, 49, 57, 50, 57, 51, 57, 52, 57, 53, 57, 54, 57, 55, 57, 56, 57, 57] })) (.tmp 132)⟩,
          ⟨some 134, .none, true, 0, .indexAddr 93 (.tmp 123) (.tmp 125)⟩,
          ⟨none, .none, true, 0, .store 5 (.tmp 134) (.tmp 131)⟩,
          ⟨some 135, .none, true, 0, .indexAddr 93 (.tmp 126) (.tmp 128)⟩,
          ⟨none, .none, true, 0, .store 5 (.tmp 135) (.tmp 133)⟩])
      (.keep [0, 4, 12]
      (.region [⟨some 136, .none, true, 3, .move (.tmp 4)⟩,
        ⟨some 137, .none, true, 3, .binOp .sub 3 (.tmp 136) (.const (.int .i64 4)) 3⟩,
        ⟨some 4, .none, true, 3, .assign (.tmp 137)⟩])))))))))))
      .skip)))
  (.seq
    (.seq
      (.region [⟨some 138, .none, true, 3, .move (.tmp 4)⟩,
        ⟨some 139, .none, true, 4, .binOp .geq 3 (.tmp 138) (.const (.int .i64 2)) 3⟩])
    (.keep [0, 4, 12, 139]
    (.cond (.tmp 139)
      (.seq
        (.region [⟨some 140, .none, true, 136, .move (.tmp 12)⟩,
          ⟨some 141, .none, true, 136, .binOp .rem 136 (.tmp 140) (.const (.int .u32 100)) 136⟩,
          ⟨some 142, .none, true, 136, .binOp .mul 136 (.tmp 141) (.const (.int .u32 2)) 136⟩,
          ⟨some 16, .none, true, 136, .assign (.tmp 142)⟩])
      (.keep [0, 4, 12, 16]
      (.seq
        (.region [⟨some 143, .none, true, 136, .move (.tmp 12)⟩,
          ⟨some 144, .none, true, 136, .binOp .quo 136 (.tmp 143) (.const (.int .u32 100)) 136⟩,
          ⟨some 12, .none, true, 136, .assign (.tmp 144)⟩])
      (.keep [0, 4, 12, 16]
      (.seq
        (.region [⟨some 145, .none, true, 93, .move (.tmp 0)⟩,
          ⟨some 146, .none, true, 3, .move (.tmp 4)⟩,
          ⟨some 147, .none, true, 3, .binOp .sub 3 (.tmp 146) (.const (.int .i64 1)) 3⟩,
          ⟨some 148, .none, false, 93, .move (.tmp 0)⟩,
          ⟨some 149, .none, false, 3, .move (.tmp 4)⟩,
          ⟨some 150, .none, false, 3, .binOp .sub 3 (.tmp 149) (.const (.int .i64 2)) 3⟩,
          ⟨some 151, .none, true, 136, .move (.tmp 16)⟩,
          ⟨some 152, .none, true, 136, .binOp .add 136 (.tmp 151) (.const (.int .u32 1)) 136⟩,
          ⟨some 153, .none, true, 5, .index 9 (.const (.string { data := #[48, 48, 48, 49, 48, 50, 48, 51, 48, 52, 48, 53, 48, 54, 48, 55, 48, 56, 48, 57, 49, 48, 49, 49, 49, 50, 49, 51, 49, 52, 49, 53, 49, 54, 49, 55, 49, 56, 49, 57, 50, 48, 50, 49, 50, 50, 50, 51, 50, 52, 50, 53, 50, 54, 50, 55, 50, 56, 50, 57, 51, 48, 51, 49, 51, 50, 51, 51, 51, 52, 51, 53, 51, 54, 51, 55, 51, 56, 51, 57, 52, 48, 52, 49, 52, 50, 52, 51, 52, 52, 52, 53, 52, 54, 52, 55, 52, 56, 52, 57, 53, 48, 53, 49, 53, 50, 53, 51, 53, 52, 53, 53, 53, 54, 53, 55, 53, 56, 53, 57, 54, 48, 54, 49, 54, 50, 54, 51, 54, 52, 54, 53, 54, 54, 54, 55, 54, 56, 54, 57, 55, 48, 55, 49, 55, 50, 55, 51, 55, 52, 55, 53, 55, 54, 55, 55, 55, 56, 55, 57, 56, 48, 56, 49, 56, 50, 56, 51, 56, 52, 56, 53, 56, 54, 56, 55, 56, 56, 56, 57, 57, 48, 57, 49, 57, 50, 57, 51, 57, 52, 57, 53, 57, 54, 57, 55, 57, 56, 57, 57] })) (.tmp 152)⟩,
          ⟨some 154, .none, false, 136, .move (.tmp 16)⟩,
          ⟨some 155, .none, false, 5, .index 9 (.const (.string { data := #[48, 48, 48, 49, 48, 50, 48, 51, 48, 52, 48, 53, 48, 54, 48, 55, 48, 56, 48, 57, 49, 48, 49, 49, 49, 50, 49, 51, 49, 52, 49, 53, 49, 54, 49, 55, 49, 56, 49, 57, 50, 48, 50, 49, 50, 50, 50, 51, 50, 52, 50, 53, 50, 54, 50, 55, 50, 56, 50, 57, 51, 48, 51, 49, 51, 50, 51, 51, 51, 52, 51, 53, 51, 54, 51, 55, 51, 56, 51, 57, 52, 48, 52, 49, 52, 50, 52, 51, 52, 52, 52, 53, 52, 54, 52, 55, 52, 56, 52, 57, 53, 48, 53, 49, 53, 50, 53, 51, 53, 52, 53, 53, 53, 54, 53, 55, 53, 56, 53, 57, 54, 48, 54, 49, 54, 50, 54, 51, 54, 52, 54, 53, 54, 54, 54, 55, 54, 56, 54, 57, 55, 48, 55, 49, 55, 50, 55, 51, 55, 52, 55, 53, 55, 54, 55, 55, 55, 56, 55, 57, 56, 48, 56, 49, 56, 50, 56, 51, 56, 52, 56, 53, 56, 54, 56, 55, 56, 56, 56, 57, 57, 48, 57, 49, 57, 50, 57, 51, 57, 52, 57, 53, 57, 54, 57, 55, 57, 56, 57, 57] })) (.tmp 154)⟩,
          ⟨some 156, .none, true, 0, .indexAddr 93 (.tmp 145) (.tmp 147)⟩,
          ⟨none, .none, true, 0, .store 5 (.tmp 156) (.tmp 153)⟩,
          ⟨some 157, .none, true, 0, .indexAddr 93 (.tmp 148) (.tmp 150)⟩,
          ⟨none, .none, true, 0, .store 5 (.tmp 157) (.tmp 155)⟩])
      (.keep [0, 4, 12]
      (.region [⟨some 158, .none, true, 3, .move (.tmp 4)⟩,
        ⟨some 159, .none, true, 3, .binOp .sub 3 (.tmp 158) (.const (.int .i64 2)) 3⟩,
        ⟨some 4, .none, true, 3, .assign (.tmp 159)⟩])))))))
      .skip)))
  (.seq
    (.region [⟨some 160, .none, true, 3, .move (.tmp 4)⟩,
      ⟨some 161, .none, true, 4, .binOp .gtr 3 (.tmp 160) (.const (.int .i64 0)) 3⟩])
  (.keep [0, 12, 161]
  (.cond (.tmp 161)
    (.region [⟨some 162, .none, true, 93, .move (.tmp 0)⟩,
      ⟨some 163, .none, true, 136, .move (.tmp 12)⟩,
      ⟨some 164, .none, true, 136, .binOp .add 136 (.const (.int .u32 48)) (.tmp 163) 136⟩,
      ⟨some 165, .none, true, 5, .convert 136 5 (.tmp 164)⟩,
      ⟨some 166, .none, true, 0, .indexAddr 93 (.tmp 162) (.const (.int .i64 0))⟩,
      ⟨none, .none, true, 0, .store 5 (.tmp 166) (.tmp 165)⟩])
    .skip)))))))))))
theorem t_internal_strconv_formatBase10 : FnT Tryd.prog f_internal_strconv_formatBase10 rc_internal_strconv_formatBase10 [] 2 := ⟨⟨[], Tryd.f92, _, Tryd.func92, rfl, by kernel_rfl, by kernel_rfl, by kernel_rfl, rfl, by decide⟩, by kernel_rfl⟩
/-- internal/strconv.formatBits -/
abbrev f_internal_strconv_formatBits : FuncId := 93
def rc_internal_strconv_formatBitsl0 : RCode :=
  (.seq
    (.seq
      (.region [⟨some 44, .none, true, 27, .move (.tmp 1)⟩,
        ⟨some 45, .none, true, 27, .move (.tmp 15)⟩,
        ⟨some 46, .none, true, 4, .binOp .geq 27 (.tmp 44) (.tmp 45) 27⟩])
    (.keep [0, 1, 3, 4, 10, 11, 12, 13, 14, 15, 16, 46]
    (.cond (.tmp 46)
      .skip
      (.exit 0))))
  (.block 1
    (.seq
      (.region [⟨some 47, .none, true, 3, .move (.tmp 13)⟩,
        ⟨some 48, .none, true, 3, .binOp .sub 3 (.tmp 47) (.const (.int .i64 1)) 3⟩,
        ⟨some 13, .none, true, 3, .assign (.tmp 48)⟩])
    (.keep [0, 1, 3, 4, 10, 11, 12, 13, 14, 15, 16]
    (.seq
      (.region [⟨some 49, .none, true, 3, .move (.tmp 13)⟩,
        ⟨some 50, .none, true, 27, .move (.tmp 1)⟩,
        ⟨some 51, .none, true, 85, .move (.tmp 16)⟩,
        ⟨some 52, .none, true, 85, .binOp .and 85 (.tmp 50) (.tmp 51) 85⟩,
        ⟨some 53, .none, true, 5, .index 9 (.const (.string { data := #[48, 49, 50, 51, 52, 53, 54, 55, 56, 57, 97, 98, 99, 100, 101, 102, 103, 104, 105, 106, 107, 108, 109, 110, 111, 112, 113, 114, 115, 116, 117, 118, 119, 120, 121, 122] })) (.tmp 52)⟩,
        ⟨some 54, .none, true, 0, .indexAddr 137 (.tmp 12) (.tmp 49)⟩,
        ⟨none, .none, true, 0, .store 5 (.tmp 54) (.tmp 53)⟩])
    (.keep [0, 1, 3, 4, 10, 11, 12, 13, 14, 15, 16]
    (.region [⟨some 55, .none, true, 27, .move (.tmp 1)⟩,
      ⟨some 56, .none, true, 85, .move (.tmp 14)⟩,
      ⟨some 57, .none, true, 27, .binOp .shr 27 (.tmp 55) (.tmp 56) 85⟩,
      ⟨some 1, .none, true, 27, .assign (.tmp 57)⟩])))))))
def rc_internal_strconv_formatBitsl1 : RCode :=
  (.seq
    (.seq
      (.region [⟨some 66, .none, true, 27, .move (.tmp 1)⟩,
        ⟨some 67, .none, true, 27, .move (.tmp 17)⟩,
        ⟨some 68, .none, true, 4, .binOp .geq 27 (.tmp 66) (.tmp 67) 27⟩])
    (.keep [0, 1, 3, 4, 10, 11, 12, 13, 17, 68]
    (.cond (.tmp 68)
      .skip
      (.exit 2))))
  (.block 3
    (.seq
      (.region [⟨some 69, .none, true, 3, .move (.tmp 13)⟩,
        ⟨some 70, .none, true, 3, .binOp .sub 3 (.tmp 69) (.const (.int .i64 1)) 3⟩,
        ⟨some 13, .none, true, 3, .assign (.tmp 70)⟩])
    (.keep [0, 1, 3, 4, 10, 11, 12, 13, 17]
    (.seq
      (.region [⟨some 71, .none, true, 27, .move (.tmp 1)⟩,
        ⟨some 72, .none, true, 27, .move (.tmp 17)⟩,
        ⟨some 73, .none, true, 27, .binOp .quo 27 (.tmp 71) (.tmp 72) 27⟩,
        ⟨some 18, .none, true, 27, .assign (.tmp 73)⟩])
    (.keep [0, 1, 3, 4, 10, 11, 12, 13, 17, 18]
    (.seq
      (.region [⟨some 74, .none, true, 3, .move (.tmp 13)⟩,
        ⟨some 75, .none, true, 27, .move (.tmp 1)⟩,
        ⟨some 76, .none, true, 27, .move (.tmp 18)⟩,
        ⟨some 77, .none, true, 27, .move (.tmp 17)⟩,
        ⟨some 78, .none, true, 27, .binOp .mul 27 (.tmp 76) (.tmp 77) 27⟩,
        ⟨some 79, .none, true, 27, .binOp .sub 27 (.tmp 75) (.tmp 78) 27⟩,
        ⟨some 80, .none, true, 5, .index 9 (.const (.string { data := #[48, 49, 50, 51, 52, 53, 54, 55, 56, 57, 97, 98, 99, 100, 101, 102, 103, 104, 105, 106, 107, 108, 109, 110, 111, 112, 113, 114, 115, 116, 117, 118, 119, 120, 121, 122] })) (.tmp 79)⟩,
        ⟨some 81, .none, true, 0, .indexAddr 137 (.tmp 12) (.tmp 74)⟩,
        ⟨none, .none, true, 0, .store 5 (.tmp 81) (.tmp 80)⟩])
    (.keep [0, 3, 4, 10, 11, 12, 13, 17, 18]
    (.region [⟨some 82, .none, true, 27, .move (.tmp 18)⟩,
      ⟨some 1, .none, true, 27, .assign (.tmp 82)⟩])))))))))
def rc_internal_strconv_formatBits : RCode :=
  (.seq
    (.region [⟨some 10, .none, true, 93, .assign (.const (.slice none 0 0))⟩,
      ⟨some 11, .none, true, 9, .assign (.const (.string { data := #[] }))⟩])
  (.keep [0, 1, 2, 3, 4, 10, 11]
  (.seq
    (.seq
      (.region [⟨some 19, .none, true, 3, .move (.tmp 2)⟩,
        ⟨some 20, .none, true, 4, .binOp .lss 3 (.tmp 19) (.const (.int .i64 2)) 3⟩,
        ⟨some 21, .none, true, 4, .move (.tmp 20)⟩,
        ⟨some 22, .some 21 false, true, 3, .move (.tmp 2)⟩,
        ⟨some 23, .some 21 false, true, 4, .binOp .eql 3 (.tmp 22) (.const (.int .i64 10)) 3⟩,
        ⟨some 24, .none, true, 4, .pick (.tmp 21) (.const (.bool true)) (.tmp 23)⟩,
        ⟨some 25, .none, true, 4, .move (.tmp 24)⟩,
        ⟨some 26, .some 25 false, true, 3, .move (.tmp 2)⟩,
        ⟨some 27, .some 25 false, true, 4, .binOp .gtr 3 (.tmp 26) (.const (.int .i64 36)) 3⟩,
        ⟨some 28, .none, true, 4, .pick (.tmp 25) (.const (.bool true)) (.tmp 27)⟩])
    (.keep [0, 1, 2, 3, 4, 10, 11, 28]
    (.cond (.tmp 28)
      (.region [⟨some 29, .none, true, 20, .makeInterface 9 (.const (.string { data := #[115, 116, 114, 99, 111, 110, 118, 58, 32, 105, 108, 108, 101, 103, 97, 108, 32, 65, 112, 112, 101, 110, 100, 73, 110, 116, 47, 70, 111, 114, 109, 97, 116, 73, 110, 116, 32, 98, 97, 115, 101] }))⟩,
        ⟨none, .none, true, 0, .panic (.tmp 29)⟩])
      .skip)))
  (.seq
    (.region [⟨some 12, .none, true, 0, .alloc 137⟩])
  (.keep [0, 1, 2, 3, 4, 10, 11, 12]
  (.seq
    (.region [⟨some 13, .none, true, 3, .assign (.const (.int .i64 65))⟩])
  (.keep [0, 1, 2, 3, 4, 10, 11, 12, 13]
  (.seq
    (.seq
      (.region [⟨some 30, .none, true, 4, .move (.tmp 3)⟩])
    (.keep [0, 1, 2, 3, 4, 10, 11, 12, 13, 30]
    (.cond (.tmp 30)
      (.region [⟨some 31, .none, true, 27, .move (.tmp 1)⟩,
        ⟨some 32, .none, true, 27, .unOp .neg 27 (.tmp 31)⟩,
        ⟨some 1, .none, true, 27, .assign (.tmp 32)⟩])
      .skip)))
  (.seq
    (.seq
      (.region [⟨some 33, .none, true, 3, .move (.tmp 2)⟩,
        ⟨some 34, .none, true, 4, .call { callee := .value (.func 106), args := #[.tmp 33], argTypes := #[3] }⟩])
    (.keep [0, 1, 2, 3, 4, 10, 11, 12, 13, 34]
    (.cond (.tmp 34)
      (.seq
        (.region [⟨some 35, .none, true, 3, .move (.tmp 2)⟩,
          ⟨some 36, .none, true, 85, .convert 3 85 (.tmp 35)⟩,
          ⟨some 37, .none, true, 3, .call { callee := .value (.func 107), args := #[.tmp 36], argTypes := #[85] }⟩,
          ⟨some 38, .none, true, 85, .convert 3 85 (.tmp 37)⟩,
          ⟨some 14, .none, true, 85, .assign (.tmp 38)⟩])
      (.keep [0, 1, 2, 3, 4, 10, 11, 12, 13, 14]
      (.seq
        (.region [⟨some 39, .none, true, 3, .move (.tmp 2)⟩,
          ⟨some 40, .none, true, 27, .convert 3 27 (.tmp 39)⟩,
          ⟨some 15, .none, true, 27, .assign (.tmp 40)⟩])
      (.keep [0, 1, 2, 3, 4, 10, 11, 12, 13, 14, 15]
      (.seq
        (.region [⟨some 41, .none, true, 3, .move (.tmp 2)⟩,
          ⟨some 42, .none, true, 85, .convert 3 85 (.tmp 41)⟩,
          ⟨some 43, .none, true, 85, .binOp .sub 85 (.tmp 42) (.const (.int .u64 1)) 85⟩,
          ⟨some 16, .none, true, 85, .assign (.tmp 43)⟩])
      (.keep [0, 1, 3, 4, 10, 11, 12, 13, 14, 15, 16]
      (.seq
        (.block 0
          (.loop [0, 1, 3, 4, 10, 11, 12, 13, 14, 15, 16] rc_internal_strconv_formatBitsl0))
      (.keep [0, 1, 3, 4, 10, 11, 12, 13]
      (.seq
        (.region [⟨some 58, .none, true, 3, .move (.tmp 13)⟩,
          ⟨some 59, .none, true, 3, .binOp .sub 3 (.tmp 58) (.const (.int .i64 1)) 3⟩,
          ⟨some 13, .none, true, 3, .assign (.tmp 59)⟩])
      (.keep [0, 1, 3, 4, 10, 11, 12, 13]
      (.region [⟨some 60, .none, true, 3, .move (.tmp 13)⟩,
        ⟨some 61, .none, true, 27, .move (.tmp 1)⟩,
        ⟨some 62, .none, true, 5, .index 9 (.const (.string { data := #[48, 49, 50, 51, 52, 53, 54, 55, 56, 57, 97, 98, 99, 100, 101, 102, 103, 104, 105, 106, 107, 108, 109, 110, 111, 112, 113, 114, 115, 116, 117, 118, 119, 120, 121, 122] })) (.tmp 61)⟩,
        ⟨some 63, .none, true, 0, .indexAddr 137 (.tmp 12) (.tmp 60)⟩,
        ⟨none, .none, true, 0, .store 5 (.tmp 63) (.tmp 62)⟩])))))))))))
      (.seq
        (.region [⟨some 64, .none, true, 3, .move (.tmp 2)⟩,
          ⟨some 65, .none, true, 27, .convert 3 27 (.tmp 64)⟩,
          ⟨some 17, .none, true, 27, .assign (.tmp 65)⟩])
      (.keep [0, 1, 3, 4, 10, 11, 12, 13, 17]
      (.seq
        (.block 2
          (.loop [0, 1, 3, 4, 10, 11, 12, 13, 17] rc_internal_strconv_formatBitsl1))
      (.keep [0, 1, 3, 4, 10, 11, 12, 13]
      (.seq
        (.region [⟨some 83, .none, true, 3, .move (.tmp 13)⟩,
          ⟨some 84, .none, true, 3, .binOp .sub 3 (.tmp 83) (.const (.int .i64 1)) 3⟩,
          ⟨some 13, .none, true, 3, .assign (.tmp 84)⟩])
      (.keep [0, 1, 3, 4, 10, 11, 12, 13]
      (.region [⟨some 85, .none, true, 3, .move (.tmp 13)⟩,
        ⟨some 86, .none, true, 27, .move (.tmp 1)⟩,
        ⟨some 87, .none, true, 5, .index 9 (.const (.string { data := #[48, 49, 50, 51, 52, 53, 54, 55, 56, 57, 97, 98, 99, 100, 101, 102, 103, 104, 105, 106, 107, 108, 109, 110, 111, 112, 113, 114, 115, 116, 117, 118, 119, 120, 121, 122] })) (.tmp 86)⟩,
        ⟨some 88, .none, true, 0, .indexAddr 137 (.tmp 12) (.tmp 85)⟩,
        ⟨none, .none, true, 0, .store 5 (.tmp 88) (.tmp 87)⟩]))))))))))
  (.seq
    (.seq
      (.region [⟨some 89, .none, true, 4, .move (.tmp 3)⟩])
    (.keep [0, 4, 10, 11, 12, 13, 89]
    (.cond (.tmp 89)
      (.seq
        (.region [⟨some 90, .none, true, 3, .move (.tmp 13)⟩,
          ⟨some 91, .none, true, 3, .binOp .sub 3 (.tmp 90) (.const (.int .i64 1)) 3⟩,
          ⟨some 13, .none, true, 3, .assign (.tmp 91)⟩])
      (.keep [0, 4, 10, 11, 12, 13]
      (.region [⟨some 92, .none, true, 3, .move (.tmp 13)⟩,
        ⟨some 93, .none, true, 0, .indexAddr 137 (.tmp 12) (.tmp 92)⟩,
        ⟨none, .none, true, 0, .store 5 (.tmp 93) (.const (.int .u8 45))⟩])))
      .skip)))
  (.seq
    (.seq
      (.region [⟨some 94, .none, true, 4, .move (.tmp 4)⟩])
    (.keep [0, 10, 11, 12, 13, 94]
    (.cond (.tmp 94)
      (.seq
        (.region [⟨some 95, .none, true, 93, .move (.tmp 0)⟩,
          ⟨some 96, .none, true, 3, .move (.tmp 13)⟩,
          ⟨some 97, .none, true, 93, .slice 137 (.tmp 12) (some (.tmp 96)) none none⟩,
          ⟨some 98, .none, true, 93, .call { callee := .builtin .append, args := #[.tmp 95, .tmp 97], argTypes := #[93, 93] }⟩,
          ⟨some 10, .none, true, 93, .assign (.tmp 98)⟩])
      .ret)
      .skip)))
  (.seq
    (.region [⟨some 99, .none, true, 3, .move (.tmp 13)⟩,
      ⟨some 100, .none, true, 93, .slice 137 (.tmp 12) (some (.tmp 99)) none none⟩,
      ⟨some 101, .none, true, 9, .convert 93 9 (.tmp 100)⟩,
      ⟨some 11, .none, true, 9, .assign (.tmp 101)⟩])
  .ret))))))))))))
theorem t_internal_strconv_formatBits : FnT Tryd.prog f_internal_strconv_formatBits rc_internal_strconv_formatBits [.tmp 10, .tmp 11] 5 := ⟨⟨[], Tryd.f93, _, Tryd.func93, rfl, by kernel_rfl, by kernel_rfl, by kernel_rfl, rfl, by decide⟩, by kernel_rfl⟩
/-- internal/strconv.log10Pow2 -/
abbrev f_internal_strconv_log10Pow2 : FuncId := 103
def rc_internal_strconv_log10Pow2 : RCode :=
  (.seq
    (.region [⟨some 2, .none, true, 3, .assign (.const (.int .i64 0))⟩])
  (.keep [0]
  (.seq
    (.region [⟨some 3, .none, true, 3, .move (.tmp 0)⟩,
      ⟨some 4, .none, true, 3, .binOp .mul 3 (.tmp 3) (.const (.int .i64 78913)) 3⟩,
      ⟨some 5, .none, true, 3, .binOp .shr 3 (.tmp 4) (.const (.int .u64 18)) 85⟩,
      ⟨some 2, .none, true, 3, .assign (.tmp 5)⟩])
  .ret)))
theorem t_internal_strconv_log10Pow2 : FnT Tryd.prog f_internal_strconv_log10Pow2 rc_internal_strconv_log10Pow2 [.tmp 2] 1 := ⟨⟨[], Tryd.f103, _, Tryd.func103, rfl, by kernel_rfl, by kernel_rfl, by kernel_rfl, rfl, by decide⟩, by kernel_rfl⟩
/-- math/bits.Len64 -/
abbrev f_math_bits_Len64 : FuncId := 104
def rc_math_bits_Len64 : RCode :=
  (.seq
    (.region [⟨some 2, .none, true, 3, .assign (.const (.int .i64 0))⟩])
  (.keep [0, 2]
  (.seq
    (.seq
      (.region [⟨some 3, .none, true, 27, .move (.tmp 0)⟩,
        ⟨some 4, .none, true, 4, .binOp .geq 27 (.tmp 3) (.const (.int .u64 4294967296)) 27⟩])
    (.keep [0, 2, 4]
    (.cond (.tmp 4)
      (.seq
        (.region [⟨some 5, .none, true, 27, .move (.tmp 0)⟩,
          ⟨some 6, .none, true, 27, .binOp .shr 27 (.tmp 5) (.const (.int .u64 32)) 85⟩,
          ⟨some 0, .none, true, 27, .assign (.tmp 6)⟩])
      (.keep [0]
      (.region [⟨some 2, .none, true, 3, .assign (.const (.int .i64 32))⟩])))
      .skip)))
  (.seq
    (.seq
      (.region [⟨some 7, .none, true, 27, .move (.tmp 0)⟩,
        ⟨some 8, .none, true, 4, .binOp .geq 27 (.tmp 7) (.const (.int .u64 65536)) 27⟩])
    (.keep [0, 2, 8]
    (.cond (.tmp 8)
      (.seq
        (.region [⟨some 9, .none, true, 27, .move (.tmp 0)⟩,
          ⟨some 10, .none, true, 27, .binOp .shr 27 (.tmp 9) (.const (.int .u64 16)) 85⟩,
          ⟨some 0, .none, true, 27, .assign (.tmp 10)⟩])
      (.keep [0, 2]
      (.region [⟨some 11, .none, true, 3, .move (.tmp 2)⟩,
        ⟨some 12, .none, true, 3, .binOp .add 3 (.tmp 11) (.const (.int .i64 16)) 3⟩,
        ⟨some 2, .none, true, 3, .assign (.tmp 12)⟩])))
      .skip)))
  (.seq
    (.seq
      (.region [⟨some 13, .none, true, 27, .move (.tmp 0)⟩,
        ⟨some 14, .none, true, 4, .binOp .geq 27 (.tmp 13) (.const (.int .u64 256)) 27⟩])
    (.keep [0, 2, 14]
    (.cond (.tmp 14)
      (.seq
        (.region [⟨some 15, .none, true, 27, .move (.tmp 0)⟩,
          ⟨some 16, .none, true, 27, .binOp .shr 27 (.tmp 15) (.const (.int .u64 8)) 85⟩,
          ⟨some 0, .none, true, 27, .assign (.tmp 16)⟩])
      (.keep [0, 2]
      (.region [⟨some 17, .none, true, 3, .move (.tmp 2)⟩,
        ⟨some 18, .none, true, 3, .binOp .add 3 (.tmp 17) (.const (.int .i64 8)) 3⟩,
        ⟨some 2, .none, true, 3, .assign (.tmp 18)⟩])))
      .skip)))
  (.seq
    (.region [⟨some 19, .none, true, 3, .move (.tmp 2)⟩,
      ⟨some 20, .none, true, 27, .move (.tmp 0)⟩,
      ⟨some 21, .none, true, 5, .convert 27 5 (.tmp 20)⟩,
      ⟨some 22, .none, true, 5, .index 9 (.const (.string { data := #[0, 1, 2, 2, 3, 3, 3, 3, 4, 4, 4, 4, 4, 4, 4, 4, 5, 5, 5, 5, 5, 5, 5, 5, 5, 5, 5, 5, 5, 5, 5, 5, 6, 6, 6, 6, 6, 6, 6, 6, 6, 6, 6, 6, 6, 6, 6, 6, 6, 6, 6, 6, 6, 6, 6, 6, 6, 6, 6, 6, 6, 6, 6, 6, 7, 7, 7, 7, 7, 7, 7, 7, 7, 7, 7, 7, 7, 7, 7, 7, 7, 7, 7, 7, 7, 7, 7, 7, 7, 7, 7, 7, 7, 7, 7, 7, 7, 7, 7, 7, 7, 7, 7, 7, 7, 7, 7, 7, 7, 7, 7, 7, 7, 7, 7, 7, 7, 7, 7, 7, 7, 7, 7, 7, 7, 7, 7, 7, 8, 8, 8, 8, 8, 8, 8, 8, 8, 8, 8, 8, 8, 8, 8, 8, 8, 8, 8, 8, 8, 8, 8, 8, 8, 8, 8, 8, 8, 8, 8, 8, 8, 8, 8, 8, 8, 8, 8, 8, 8, 8, 8, 8, 8, 8, 8, 8, 8, 8, 8, 8, 8, 8, 8, 8, 8, 8, 8, 8, 8, 8, 8, 8, 8, 8, 8, 8, 8, 8, 8, 8, 8, 8, 8, 8, 8, 8, 8, 8, 8, 8, 8, 8, 8, 8, 8, 8, 8, 8, 8, 8, 8, 8, 8, 8, 8, 8, 8, 8, 8, 8, 8, 8, 8, 8, 8, 8, 8, 8, 8, 8, 8, 8, 8, 8, 8, 8, 8, 8, 8, 8, 8, 8, 8, 8, 8, 8] })) (.tmp 21)⟩,
      ⟨some 23, .none, true, 3, .convert 5 3 (.tmp 22)⟩,
      ⟨some 24, .none, true, 3, .binOp .add 3 (.tmp 19) (.tmp 23) 3⟩,
      ⟨some 2, .none, true, 3, .assign (.tmp 24)⟩])
  .ret))))))
theorem t_math_bits_Len64 : FnT Tryd.prog f_math_bits_Len64 rc_math_bits_Len64 [.tmp 2] 1 := ⟨⟨[], Tryd.f104, _, Tryd.func104, rfl, by kernel_rfl, by kernel_rfl, by kernel_rfl, rfl, by decide⟩, by kernel_rfl⟩
/-- internal/strconv.bool2[int] -/
abbrev f_internal_strconv_bool2_int : FuncId := 105
def rc_internal_strconv_bool2_int : RCode :=
  (.seq
    (.region [⟨some 2, .none, true, 3, .assign (.const (.int .i64 0))⟩])
  (.keep [0]
  (.seq
    (.seq
      (.region [⟨some 3, .none, true, 4, .move (.tmp 0)⟩])
    (.keep [3]
    (.cond (.tmp 3)
      (.seq
        (.region [⟨some 2, .none, true, 3, .assign (.const (.int .i64 1))⟩])
      .ret)
      .skip)))
  (.seq
    (.region [⟨some 2, .none, true, 3, .assign (.const (.int .i64 0))⟩])
  .ret))))
theorem t_internal_strconv_bool2_int : FnT Tryd.prog f_internal_strconv_bool2_int rc_internal_strconv_bool2_int [.tmp 2] 1 := ⟨⟨[], Tryd.f105, _, Tryd.func105, rfl, by kernel_rfl, by kernel_rfl, by kernel_rfl, rfl, by decide⟩, by kernel_rfl⟩
/-- internal/strconv.isPowerOfTwo -/
abbrev f_internal_strconv_isPowerOfTwo : FuncId := 106
def rc_internal_strconv_isPowerOfTwo : RCode :=
  (.seq
    (.region [⟨some 2, .none, true, 4, .assign (.const (.bool false))⟩])
  (.keep [0]
  (.seq
    (.region [⟨some 3, .none, true, 3, .move (.tmp 0)⟩,
      ⟨some 4, .none, true, 3, .move (.tmp 0)⟩,
      ⟨some 5, .none, true, 3, .binOp .sub 3 (.tmp 4) (.const (.int .i64 1)) 3⟩,
      ⟨some 6, .none, true, 3, .binOp .and 3 (.tmp 3) (.tmp 5) 3⟩,
      ⟨some 7, .none, true, 4, .binOp .eql 3 (.tmp 6) (.const (.int .i64 0)) 3⟩,
      ⟨some 2, .none, true, 4, .assign (.tmp 7)⟩])
  .ret)))
theorem t_internal_strconv_isPowerOfTwo : FnT Tryd.prog f_internal_strconv_isPowerOfTwo rc_internal_strconv_isPowerOfTwo [.tmp 2] 1 := ⟨⟨[], Tryd.f106, _, Tryd.func106, rfl, by kernel_rfl, by kernel_rfl, by kernel_rfl, rfl, by decide⟩, by kernel_rfl⟩
/-- math/bits.TrailingZeros -/
abbrev f_math_bits_TrailingZeros : FuncId := 107
def rc_math_bits_TrailingZeros : RCode :=
  (.seq
    (.region [⟨some 2, .none, true, 3, .assign (.const (.int .i64 0))⟩])
  (.keep [0]
  (.seq
    (.cond (.const (.bool false))
      (.seq
        (.region [⟨some 3, .none, true, 85, .move (.tmp 0)⟩,
          ⟨some 4, .none, true, 136, .convert 85 136 (.tmp 3)⟩,
          ⟨some 5, .none, true, 3, .call { callee := .value (.func 115), args := #[.tmp 4], argTypes := #[136] }⟩,
          ⟨some 2, .none, true, 3, .assign (.tmp 5)⟩])
      .ret)
      .skip)
  (.keep [0]
  (.seq
    (.region [⟨some 6, .none, true, 85, .move (.tmp 0)⟩,
      ⟨some 7, .none, true, 3, .call { callee := .value (.func 116), args := #[.tmp 6], argTypes := #[27] }⟩,
      ⟨some 2, .none, true, 3, .assign (.tmp 7)⟩])
  .ret)))))
theorem t_math_bits_TrailingZeros : FnT Tryd.prog f_math_bits_TrailingZeros rc_math_bits_TrailingZeros [.tmp 2] 1 := ⟨⟨[], Tryd.f107, _, Tryd.func107, rfl, by kernel_rfl, by kernel_rfl, by kernel_rfl, rfl, by decide⟩, by kernel_rfl⟩
/-- math/bits.TrailingZeros32 -/
abbrev f_math_bits_TrailingZeros32 : FuncId := 115
def rc_math_bits_TrailingZeros32 : RCode :=
  (.seq
    (.region [⟨some 2, .none, true, 3, .assign (.const (.int .i64 0))⟩])
  (.keep [0]
  (.seq
    (.seq
      (.region [⟨some 3, .none, true, 136, .move (.tmp 0)⟩,
        ⟨some 4, .none, true, 4, .binOp .eql 136 (.tmp 3) (.const (.int .u32 0)) 136⟩])
    (.keep [0, 4]
    (.cond (.tmp 4)
      (.seq
        (.region [⟨some 2, .none, true, 3, .assign (.const (.int .i64 32))⟩])
      .ret)
      .skip)))
  (.seq
    (.region [⟨some 5, .none, true, 136, .move (.tmp 0)⟩,
      ⟨some 6, .none, true, 136, .move (.tmp 0)⟩,
      ⟨some 7, .none, true, 136, .unOp .neg 136 (.tmp 6)⟩,
      ⟨some 8, .none, true, 136, .binOp .and 136 (.tmp 5) (.tmp 7) 136⟩,
      ⟨some 9, .none, true, 136, .binOp .mul 136 (.tmp 8) (.const (.int .u32 125613361)) 136⟩,
      ⟨some 10, .none, true, 136, .binOp .shr 136 (.tmp 9) (.const (.int .u64 27)) 85⟩,
      ⟨some 11, .none, true, 0, .indexAddr 151 (.global 6) (.tmp 10)⟩,
      ⟨some 12, .none, true, 5, .load 5 (.tmp 11)⟩,
      ⟨some 13, .none, true, 3, .convert 5 3 (.tmp 12)⟩,
      ⟨some 2, .none, true, 3, .assign (.tmp 13)⟩])
  .ret))))
theorem t_math_bits_TrailingZeros32 : FnT Tryd.prog f_math_bits_TrailingZeros32 rc_math_bits_TrailingZeros32 [.tmp 2] 1 := ⟨⟨[], Tryd.f115, _, Tryd.func115, rfl, by kernel_rfl, by kernel_rfl, by kernel_rfl, rfl, by decide⟩, by kernel_rfl⟩
/-- math/bits.TrailingZeros64 -/
abbrev f_math_bits_TrailingZeros64 : FuncId := 116
def rc_math_bits_TrailingZeros64 : RCode :=
  (.seq
    (.region [⟨some 2, .none, true, 3, .assign (.const (.int .i64 0))⟩])
  (.keep [0]
  (.seq
    (.seq
      (.region [⟨some 3, .none, true, 27, .move (.tmp 0)⟩,
        ⟨some 4, .none, true, 4, .binOp .eql 27 (.tmp 3) (.const (.int .u64 0)) 27⟩])
    (.keep [0, 4]
    (.cond (.tmp 4)
      (.seq
        (.region [⟨some 2, .none, true, 3, .assign (.const (.int .i64 64))⟩])
      .ret)
      .skip)))
  (.seq
    (.region [⟨some 5, .none, true, 27, .move (.tmp 0)⟩,
      ⟨some 6, .none, true, 27, .move (.tmp 0)⟩,
      ⟨some 7, .none, true, 27, .unOp .neg 27 (.tmp 6)⟩,
      ⟨some 8, .none, true, 27, .binOp .and 27 (.tmp 5) (.tmp 7) 27⟩,
      ⟨some 9, .none, true, 27, .binOp .mul 27 (.tmp 8) (.const (.int .u64 285870213051353865)) 27⟩,
      ⟨some 10, .none, true, 27, .binOp .shr 27 (.tmp 9) (.const (.int .u64 58)) 85⟩,
      ⟨some 11, .none, true, 0, .indexAddr 152 (.global 7) (.tmp 10)⟩,
      ⟨some 12, .none, true, 5, .load 5 (.tmp 11)⟩,
      ⟨some 13, .none, true, 3, .convert 5 3 (.tmp 12)⟩,
      ⟨some 2, .none, true, 3, .assign (.tmp 13)⟩])
  .ret))))
theorem t_math_bits_TrailingZeros64 : FnT Tryd.prog f_math_bits_TrailingZeros64 rc_math_bits_TrailingZeros64 [.tmp 2] 1 := ⟨⟨[], Tryd.f116, _, Tryd.func116, rfl, by kernel_rfl, by kernel_rfl, by kernel_rfl, rfl, by decide⟩, by kernel_rfl⟩
def tab : XTab :=
  [(3, rc_reevelaw9_PathOne, [.tmp 4], 2),
   (12, rc_reevelaw9_awake, [.tmp 0], 0),
   (13, rc_path_Good, [.tmp 2], 1),
   (14, rc_path_Word, [.tmp 2, .tmp 3], 1),
   (15, rc_reevelaw9_ints, [.tmp 4], 2),
   (16, rc_path_Text, [.tmp 2], 1),
   (17, rc_path_Begins, [.tmp 4], 2),
   (42, rc_path_Good_1, [.tmp 2], 1),
   (43, rc_slices_ContainsFunc_S_int_int, [.tmp 4], 2),
   (44, rc_strconv_Itoa, [.tmp 2], 1),
   (45, rc_strings_Join, [.tmp 4], 2),
   (46, rc_slices_Equal_S_int_int, [.tmp 4], 2),
   (64, rc_slices_IndexFunc_S_int_int, [.tmp 4], 2),
   (65, rc_internal_strconv_Itoa, [.tmp 2], 1),
   (66, rc_P_strings_Builder_Grow, [], 2),
   (67, rc_P_strings_Builder_WriteString, [.tmp 4, .tmp 5], 2),
   (68, rc_P_strings_Builder_String, [.tmp 2], 1),
   (79, rc_internal_strconv_FormatInt, [.tmp 4], 2),
   (81, rc_P_strings_Builder_grow, [], 2),
   (90, rc_internal_strconv_small, [.tmp 2], 1),
   (91, rc_internal_strconv_numDigits, [.tmp 2], 1),
   (92, rc_internal_strconv_formatBase10, [], 2),
   (93, rc_internal_strconv_formatBits, [.tmp 10, .tmp 11], 5),
   (103, rc_internal_strconv_log10Pow2, [.tmp 2], 1),
   (104, rc_math_bits_Len64, [.tmp 2], 1),
   (105, rc_internal_strconv_bool2_int, [.tmp 2], 1),
   (106, rc_internal_strconv_isPowerOfTwo, [.tmp 2], 1),
   (107, rc_math_bits_TrailingZeros, [.tmp 2], 1),
   (115, rc_math_bits_TrailingZeros32, [.tmp 2], 1),
   (116, rc_math_bits_TrailingZeros64, [.tmp 2], 1)]
theorem tabOk : TabOk Tryd.prog tab :=
  .cons t_reevelaw9_PathOne <|
  .cons t_reevelaw9_awake <|
  .cons t_path_Good <|
  .cons t_path_Word <|
  .cons t_reevelaw9_ints <|
  .cons t_path_Text <|
  .cons t_path_Begins <|
  .cons t_path_Good_1 <|
  .cons t_slices_ContainsFunc_S_int_int <|
  .cons t_strconv_Itoa <|
  .cons t_strings_Join <|
  .cons t_slices_Equal_S_int_int <|
  .cons t_slices_IndexFunc_S_int_int <|
  .cons t_internal_strconv_Itoa <|
  .cons t_P_strings_Builder_Grow <|
  .cons t_P_strings_Builder_WriteString <|
  .cons t_P_strings_Builder_String <|
  .cons t_internal_strconv_FormatInt <|
  .cons t_P_strings_Builder_grow <|
  .cons t_internal_strconv_small <|
  .cons t_internal_strconv_numDigits <|
  .cons t_internal_strconv_formatBase10 <|
  .cons t_internal_strconv_formatBits <|
  .cons t_internal_strconv_log10Pow2 <|
  .cons t_math_bits_Len64 <|
  .cons t_internal_strconv_bool2_int <|
  .cons t_internal_strconv_isPowerOfTwo <|
  .cons t_math_bits_TrailingZeros <|
  .cons t_math_bits_TrailingZeros32 <|
  .cons t_math_bits_TrailingZeros64 <| .nil

end Go.Proofs.YtfcbhgiccgommaaDoor.F9
