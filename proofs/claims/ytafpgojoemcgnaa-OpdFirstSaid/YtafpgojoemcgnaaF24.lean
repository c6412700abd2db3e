/- Functions of the program made ready for walking, each with its proof; facts of types. Written by gen2.py. -/
import Derived.Test.YtafpgojoemcgnaaProg
import Derived.Test.YtafpgojoemcgnaaAbsC
set_option linter.unusedVariables false
set_option maxRecDepth 100000
namespace Go.Proofs.Ytafpgojoemcgnaa.F24
open Go Go.Proofs Go.Proofs.YtafpgojoemcgnaaAbs
theorem hm : Try.prog.follows .mixedOrders = true := by kernel_rfl
abbrev T_int : TypeId := 3
theorem ts_int : tsize Try.prog 3 = some 1 := by kernel_rfl
theorem tb_int : tbytes Try.prog 3 = some 8 := by kernel_rfl
theorem ta_int : tagg Try.prog 3 = some false := by kernel_rfl
theorem tz_int : zeroFlat Try.prog 3 = some [.int .i64 0] := by kernel_rfl
theorem tv_int : tzero Try.prog 3 = some (.int .i64 0) := by kernel_rfl
theorem tu_int : Try.prog.underlying 3 = some (.int .i64) := by kernel_rfl
abbrev T_bool : TypeId := 4
theorem ts_bool : tsize Try.prog 4 = some 1 := by kernel_rfl
theorem tb_bool : tbytes Try.prog 4 = some 1 := by kernel_rfl
theorem ta_bool : tagg Try.prog 4 = some false := by kernel_rfl
theorem tz_bool : zeroFlat Try.prog 4 = some [.bool false] := by kernel_rfl
theorem tv_bool : tzero Try.prog 4 = some (.bool false) := by kernel_rfl
theorem tu_bool : Try.prog.underlying 4 = some (.bool) := by kernel_rfl
abbrev T_uint64 : TypeId := 23
theorem ts_uint64 : tsize Try.prog 23 = some 1 := by kernel_rfl
theorem tb_uint64 : tbytes Try.prog 23 = some 8 := by kernel_rfl
theorem ta_uint64 : tagg Try.prog 23 = some false := by kernel_rfl
theorem tz_uint64 : zeroFlat Try.prog 23 = some [.int .u64 0] := by kernel_rfl
theorem tv_uint64 : tzero Try.prog 23 = some (.int .u64 0) := by kernel_rfl
theorem tu_uint64 : Try.prog.underlying 23 = some (.int .u64) := by kernel_rfl
abbrev T_A4_uint64 : TypeId := 24
theorem te_A4_uint64 : eqOk Try.prog 24 = some [.int .u64, .int .u64, .int .u64, .int .u64] := by kernel_rfl
theorem ts_A4_uint64 : tsize Try.prog 24 = some 4 := by kernel_rfl
theorem tb_A4_uint64 : tbytes Try.prog 24 = some 32 := by kernel_rfl
theorem ta_A4_uint64 : tagg Try.prog 24 = some true := by kernel_rfl
theorem tz_A4_uint64 : zeroFlat Try.prog 24 = some [.int .u64 0, .int .u64 0, .int .u64 0, .int .u64 0] := by kernel_rfl
theorem tv_A4_uint64 : tzero Try.prog 24 = some (.agg #[.int .u64 0, .int .u64 0, .int .u64 0, .int .u64 0]) := by kernel_rfl
theorem tu_A4_uint64 : Try.prog.underlying 24 = some (.array 4 23) := by kernel_rfl
abbrev T_S_uint64 : TypeId := 29
theorem ts_S_uint64 : tsize Try.prog 29 = some 1 := by kernel_rfl
theorem tb_S_uint64 : tbytes Try.prog 29 = some 24 := by kernel_rfl
theorem ta_S_uint64 : tagg Try.prog 29 = some false := by kernel_rfl
theorem tz_S_uint64 : zeroFlat Try.prog 29 = some [.slice none 0 0] := by kernel_rfl
theorem tv_S_uint64 : tzero Try.prog 29 = some (.slice none 0 0) := by kernel_rfl
theorem tu_S_uint64 : Try.prog.underlying 29 = some (.slice 23) := by kernel_rfl
abbrev T_geo_Geo : TypeId := 49
theorem te_geo_Geo : eqOk Try.prog 49 = some [.int .i64, .int .i64, .int .i64] := by kernel_rfl
theorem ts_geo_Geo : tsize Try.prog 49 = some 3 := by kernel_rfl
theorem tb_geo_Geo : tbytes Try.prog 49 = some 24 := by kernel_rfl
theorem ta_geo_Geo : tagg Try.prog 49 = some true := by kernel_rfl
theorem tz_geo_Geo : zeroFlat Try.prog 49 = some [.int .i64 0, .int .i64 0, .int .i64 0] := by kernel_rfl
theorem tv_geo_Geo : tzero Try.prog 49 = some (.agg #[.int .i64 0, .int .i64 0, .int .i64 0]) := by kernel_rfl
theorem tp_geo_Geo : tplaces Try.prog 49 = some [(0, 1), (1, 1), (2, 1)] := by kernel_rfl
theorem tf_geo_Geo_Threads : tfield Try.prog 49 0 = some (3, 0) := by kernel_rfl
theorem tg_geo_Geo_Threads : tfield' Try.prog 49 0 = some (3, 0) := by kernel_rfl
theorem tf_geo_Geo_Slots : tfield Try.prog 49 1 = some (3, 1) := by kernel_rfl
theorem tg_geo_Geo_Slots : tfield' Try.prog 49 1 = some (3, 1) := by kernel_rfl
theorem tf_geo_Geo_Things : tfield Try.prog 49 2 = some (3, 2) := by kernel_rfl
theorem tg_geo_Geo_Things : tfield' Try.prog 49 2 = some (3, 2) := by kernel_rfl
abbrev T_api_Errno : TypeId := 52
theorem ts_api_Errno : tsize Try.prog 52 = some 1 := by kernel_rfl
theorem tb_api_Errno : tbytes Try.prog 52 = some 8 := by kernel_rfl
theorem ta_api_Errno : tagg Try.prog 52 = some false := by kernel_rfl
theorem tz_api_Errno : zeroFlat Try.prog 52 = some [.int .i64 0] := by kernel_rfl
theorem tv_api_Errno : tzero Try.prog 52 = some (.int .i64 0) := by kernel_rfl
theorem tu_api_Errno : Try.prog.underlying 52 = some (.int .i64) := by kernel_rfl
abbrev T_state_Reply : TypeId := 54
theorem te_state_Reply : eqOk Try.prog 54 = some [.int .i64, .int .u64, .int .i64] := by kernel_rfl
theorem ts_state_Reply : tsize Try.prog 54 = some 3 := by kernel_rfl
theorem tb_state_Reply : tbytes Try.prog 54 = some 24 := by kernel_rfl
theorem ta_state_Reply : tagg Try.prog 54 = some true := by kernel_rfl
theorem tz_state_Reply : zeroFlat Try.prog 54 = some [.int .i64 0, .int .u64 0, .int .i64 0] := by kernel_rfl
theorem tv_state_Reply : tzero Try.prog 54 = some (.agg #[.int .i64 0, .int .u64 0, .int .i64 0]) := by kernel_rfl
theorem tp_state_Reply : tplaces Try.prog 54 = some [(0, 1), (1, 1), (2, 1)] := by kernel_rfl
theorem tf_state_Reply_Err : tfield Try.prog 54 0 = some (52, 0) := by kernel_rfl
theorem tg_state_Reply_Err : tfield' Try.prog 54 0 = some (52, 0) := by kernel_rfl
theorem tf_state_Reply_W : tfield Try.prog 54 1 = some (23, 1) := by kernel_rfl
theorem tg_state_Reply_W : tfield' Try.prog 54 1 = some (23, 1) := by kernel_rfl
theorem tf_state_Reply_N : tfield Try.prog 54 2 = some (3, 2) := by kernel_rfl
theorem tg_state_Reply_N : tfield' Try.prog 54 2 = some (3, 2) := by kernel_rfl
abbrev T_S_wset_Write : TypeId := 55
abbrev T_wset_Write : TypeId := 60
theorem te_wset_Write : eqOk Try.prog 60 = some [.int .i64, .int .u64] := by kernel_rfl
theorem ts_wset_Write : tsize Try.prog 60 = some 2 := by kernel_rfl
theorem tb_wset_Write : tbytes Try.prog 60 = some 16 := by kernel_rfl
theorem ta_wset_Write : tagg Try.prog 60 = some true := by kernel_rfl
theorem tz_wset_Write : zeroFlat Try.prog 60 = some [.int .i64 0, .int .u64 0] := by kernel_rfl
theorem tv_wset_Write : tzero Try.prog 60 = some (.agg #[.int .i64 0, .int .u64 0]) := by kernel_rfl
theorem tp_wset_Write : tplaces Try.prog 60 = some [(0, 1), (1, 1)] := by kernel_rfl
theorem tf_wset_Write_At : tfield Try.prog 60 0 = some (3, 0) := by kernel_rfl
theorem tg_wset_Write_At : tfield' Try.prog 60 0 = some (3, 0) := by kernel_rfl
theorem tf_wset_Write_V : tfield Try.prog 60 1 = some (23, 1) := by kernel_rfl
theorem tg_wset_Write_V : tfield' Try.prog 60 1 = some (23, 1) := by kernel_rfl
theorem ts_S_wset_Write : tsize Try.prog 55 = some 1 := by kernel_rfl
theorem tb_S_wset_Write : tbytes Try.prog 55 = some 24 := by kernel_rfl
theorem ta_S_wset_Write : tagg Try.prog 55 = some false := by kernel_rfl
theorem tz_S_wset_Write : zeroFlat Try.prog 55 = some [.slice none 0 0] := by kernel_rfl
theorem tv_S_wset_Write : tzero Try.prog 55 = some (.slice none 0 0) := by kernel_rfl
theorem tu_S_wset_Write : Try.prog.underlying 55 = some (.slice 60) := by kernel_rfl
abbrev T_opd_Desc : TypeId := 57
theorem ts_opd_Desc : tsize Try.prog 57 = some 10 := by kernel_rfl
theorem tb_opd_Desc : tbytes Try.prog 57 = some 96 := by kernel_rfl
theorem ta_opd_Desc : tagg Try.prog 57 = some true := by kernel_rfl
theorem tz_opd_Desc : zeroFlat Try.prog 57 = some [.int .i64 0, .int .u64 0, .int .u64 0, .int .u64 0, .int .u64 0, .int .u64 0, .int .i64 0, .int .u64 0, .int .i64 0, .slice none 0 0] := by kernel_rfl
theorem tv_opd_Desc : tzero Try.prog 57 = some (.agg #[.int .i64 0, .int .u64 0, .int .u64 0, .int .u64 0, .int .u64 0, .int .u64 0, .int .i64 0, .int .u64 0, .int .i64 0, .slice none 0 0]) := by kernel_rfl
theorem tp_opd_Desc : tplaces Try.prog 57 = some [(0, 1), (1, 1), (2, 4), (6, 3), (9, 1)] := by kernel_rfl
theorem tf_opd_Desc_Status : tfield Try.prog 57 0 = some (3, 0) := by kernel_rfl
theorem tg_opd_Desc_Status : tfield' Try.prog 57 0 = some (3, 0) := by kernel_rfl
theorem tf_opd_Desc_Seq : tfield Try.prog 57 1 = some (23, 1) := by kernel_rfl
theorem tg_opd_Desc_Seq : tfield' Try.prog 57 1 = some (23, 1) := by kernel_rfl
theorem tf_opd_Desc_L : tfield Try.prog 57 2 = some (24, 2) := by kernel_rfl
theorem tg_opd_Desc_L : tfield' Try.prog 57 2 = some (24, 2) := by kernel_rfl
theorem tf_opd_Desc_Reply : tfield Try.prog 57 3 = some (54, 6) := by kernel_rfl
theorem tg_opd_Desc_Reply : tfield' Try.prog 57 3 = some (54, 6) := by kernel_rfl
theorem tf_opd_Desc_W : tfield Try.prog 57 4 = some (55, 9) := by kernel_rfl
theorem tg_opd_Desc_W : tfield' Try.prog 57 4 = some (55, 9) := by kernel_rfl
abbrev T_reeveref11_Reply : TypeId := 66
theorem te_reeveref11_Reply : eqOk Try.prog 66 = some [.int .i64, .int .u64, .int .i64] := by kernel_rfl
theorem ts_reeveref11_Reply : tsize Try.prog 66 = some 3 := by kernel_rfl
theorem tb_reeveref11_Reply : tbytes Try.prog 66 = some 24 := by kernel_rfl
theorem ta_reeveref11_Reply : tagg Try.prog 66 = some true := by kernel_rfl
theorem tz_reeveref11_Reply : zeroFlat Try.prog 66 = some [.int .i64 0, .int .u64 0, .int .i64 0] := by kernel_rfl
theorem tv_reeveref11_Reply : tzero Try.prog 66 = some (.agg #[.int .i64 0, .int .u64 0, .int .i64 0]) := by kernel_rfl
theorem tp_reeveref11_Reply : tplaces Try.prog 66 = some [(0, 1), (1, 1), (2, 1)] := by kernel_rfl
theorem tf_reeveref11_Reply_Err : tfield Try.prog 66 0 = some (52, 0) := by kernel_rfl
theorem tg_reeveref11_Reply_Err : tfield' Try.prog 66 0 = some (52, 0) := by kernel_rfl
theorem tf_reeveref11_Reply_W : tfield Try.prog 66 1 = some (23, 1) := by kernel_rfl
theorem tg_reeveref11_Reply_W : tfield' Try.prog 66 1 = some (23, 1) := by kernel_rfl
theorem tf_reeveref11_Reply_N : tfield Try.prog 66 2 = some (3, 2) := by kernel_rfl
theorem tg_reeveref11_Reply_N : tfield' Try.prog 66 2 = some (3, 2) := by kernel_rfl
abbrev T_S_reeveref22_Write : TypeId := 67
abbrev T_reeveref22_Write : TypeId := 92
theorem te_reeveref22_Write : eqOk Try.prog 92 = some [.int .i64, .int .u64] := by kernel_rfl
theorem ts_reeveref22_Write : tsize Try.prog 92 = some 2 := by kernel_rfl
theorem tb_reeveref22_Write : tbytes Try.prog 92 = some 16 := by kernel_rfl
theorem ta_reeveref22_Write : tagg Try.prog 92 = some true := by kernel_rfl
theorem tz_reeveref22_Write : zeroFlat Try.prog 92 = some [.int .i64 0, .int .u64 0] := by kernel_rfl
theorem tv_reeveref22_Write : tzero Try.prog 92 = some (.agg #[.int .i64 0, .int .u64 0]) := by kernel_rfl
theorem tp_reeveref22_Write : tplaces Try.prog 92 = some [(0, 1), (1, 1)] := by kernel_rfl
theorem tf_reeveref22_Write_At : tfield Try.prog 92 0 = some (3, 0) := by kernel_rfl
theorem tg_reeveref22_Write_At : tfield' Try.prog 92 0 = some (3, 0) := by kernel_rfl
theorem tf_reeveref22_Write_V : tfield Try.prog 92 1 = some (23, 1) := by kernel_rfl
theorem tg_reeveref22_Write_V : tfield' Try.prog 92 1 = some (23, 1) := by kernel_rfl
theorem ts_S_reeveref22_Write : tsize Try.prog 67 = some 1 := by kernel_rfl
theorem tb_S_reeveref22_Write : tbytes Try.prog 67 = some 24 := by kernel_rfl
theorem ta_S_reeveref22_Write : tagg Try.prog 67 = some false := by kernel_rfl
theorem tz_S_reeveref22_Write : zeroFlat Try.prog 67 = some [.slice none 0 0] := by kernel_rfl
theorem tv_S_reeveref22_Write : tzero Try.prog 67 = some (.slice none 0 0) := by kernel_rfl
theorem tu_S_reeveref22_Write : Try.prog.underlying 67 = some (.slice 92) := by kernel_rfl
abbrev T_reeveref22_Desc : TypeId := 69
theorem ts_reeveref22_Desc : tsize Try.prog 69 = some 10 := by kernel_rfl
theorem tb_reeveref22_Desc : tbytes Try.prog 69 = some 96 := by kernel_rfl
theorem ta_reeveref22_Desc : tagg Try.prog 69 = some true := by kernel_rfl
theorem tz_reeveref22_Desc : zeroFlat Try.prog 69 = some [.int .i64 0, .int .u64 0, .int .u64 0, .int .u64 0, .int .u64 0, .int .u64 0, .int .i64 0, .int .u64 0, .int .i64 0, .slice none 0 0] := by kernel_rfl
theorem tv_reeveref22_Desc : tzero Try.prog 69 = some (.agg #[.int .i64 0, .int .u64 0, .int .u64 0, .int .u64 0, .int .u64 0, .int .u64 0, .int .i64 0, .int .u64 0, .int .i64 0, .slice none 0 0]) := by kernel_rfl
theorem tp_reeveref22_Desc : tplaces Try.prog 69 = some [(0, 1), (1, 1), (2, 4), (6, 3), (9, 1)] := by kernel_rfl
theorem tf_reeveref22_Desc_Status : tfield Try.prog 69 0 = some (3, 0) := by kernel_rfl
theorem tg_reeveref22_Desc_Status : tfield' Try.prog 69 0 = some (3, 0) := by kernel_rfl
theorem tf_reeveref22_Desc_Seq : tfield Try.prog 69 1 = some (23, 1) := by kernel_rfl
theorem tg_reeveref22_Desc_Seq : tfield' Try.prog 69 1 = some (23, 1) := by kernel_rfl
theorem tf_reeveref22_Desc_L : tfield Try.prog 69 2 = some (24, 2) := by kernel_rfl
theorem tg_reeveref22_Desc_L : tfield' Try.prog 69 2 = some (24, 2) := by kernel_rfl
theorem tf_reeveref22_Desc_Reply : tfield Try.prog 69 3 = some (66, 6) := by kernel_rfl
theorem tg_reeveref22_Desc_Reply : tfield' Try.prog 69 3 = some (66, 6) := by kernel_rfl
theorem tf_reeveref22_Desc_W : tfield Try.prog 69 4 = some (67, 9) := by kernel_rfl
theorem tg_reeveref22_Desc_W : tfield' Try.prog 69 4 = some (67, 9) := by kernel_rfl
abbrev T_reeveref1_Geo : TypeId := 73
theorem te_reeveref1_Geo : eqOk Try.prog 73 = some [.int .i64, .int .i64, .int .i64] := by kernel_rfl
theorem ts_reeveref1_Geo : tsize Try.prog 73 = some 3 := by kernel_rfl
theorem tb_reeveref1_Geo : tbytes Try.prog 73 = some 24 := by kernel_rfl
theorem ta_reeveref1_Geo : tagg Try.prog 73 = some true := by kernel_rfl
theorem tz_reeveref1_Geo : zeroFlat Try.prog 73 = some [.int .i64 0, .int .i64 0, .int .i64 0] := by kernel_rfl
theorem tv_reeveref1_Geo : tzero Try.prog 73 = some (.agg #[.int .i64 0, .int .i64 0, .int .i64 0]) := by kernel_rfl
theorem tp_reeveref1_Geo : tplaces Try.prog 73 = some [(0, 1), (1, 1), (2, 1)] := by kernel_rfl
theorem tf_reeveref1_Geo_Threads : tfield Try.prog 73 0 = some (3, 0) := by kernel_rfl
theorem tg_reeveref1_Geo_Threads : tfield' Try.prog 73 0 = some (3, 0) := by kernel_rfl
theorem tf_reeveref1_Geo_Slots : tfield Try.prog 73 1 = some (3, 1) := by kernel_rfl
theorem tg_reeveref1_Geo_Slots : tfield' Try.prog 73 1 = some (3, 1) := by kernel_rfl
theorem tf_reeveref1_Geo_Things : tfield Try.prog 73 2 = some (3, 2) := by kernel_rfl
theorem tg_reeveref1_Geo_Things : tfield' Try.prog 73 2 = some (3, 2) := by kernel_rfl
abbrev T_S_tag_Field : TypeId := 85
abbrev T_tag_Field : TypeId := 100
theorem te_tag_Field : eqOk Try.prog 100 = some [.int .i64, .int .i64] := by kernel_rfl
theorem ts_tag_Field : tsize Try.prog 100 = some 2 := by kernel_rfl
theorem tb_tag_Field : tbytes Try.prog 100 = some 16 := by kernel_rfl
theorem ta_tag_Field : tagg Try.prog 100 = some true := by kernel_rfl
theorem tz_tag_Field : zeroFlat Try.prog 100 = some [.int .i64 0, .int .i64 0] := by kernel_rfl
theorem tv_tag_Field : tzero Try.prog 100 = some (.agg #[.int .i64 0, .int .i64 0]) := by kernel_rfl
theorem tp_tag_Field : tplaces Try.prog 100 = some [(0, 1), (1, 1)] := by kernel_rfl
theorem tf_tag_Field_From : tfield Try.prog 100 0 = some (3, 0) := by kernel_rfl
theorem tg_tag_Field_From : tfield' Try.prog 100 0 = some (3, 0) := by kernel_rfl
theorem tf_tag_Field_Len : tfield Try.prog 100 1 = some (3, 1) := by kernel_rfl
theorem tg_tag_Field_Len : tfield' Try.prog 100 1 = some (3, 1) := by kernel_rfl
theorem ts_S_tag_Field : tsize Try.prog 85 = some 1 := by kernel_rfl
theorem tb_S_tag_Field : tbytes Try.prog 85 = some 24 := by kernel_rfl
theorem ta_S_tag_Field : tagg Try.prog 85 = some false := by kernel_rfl
theorem tz_S_tag_Field : zeroFlat Try.prog 85 = some [.slice none 0 0] := by kernel_rfl
theorem tv_S_tag_Field : tzero Try.prog 85 = some (.slice none 0 0) := by kernel_rfl
theorem tu_S_tag_Field : Try.prog.underlying 85 = some (.slice 100) := by kernel_rfl
abbrev T_interface : TypeId := 20
theorem ts_interface : tsize Try.prog 20 = some 1 := by kernel_rfl
theorem tb_interface : tbytes Try.prog 20 = some 16 := by kernel_rfl
theorem ta_interface : tagg Try.prog 20 = some false := by kernel_rfl
theorem tz_interface : zeroFlat Try.prog 20 = some [.nilIface] := by kernel_rfl
theorem tv_interface : tzero Try.prog 20 = some (.nilIface) := by kernel_rfl
theorem beq_A4_uint64 : ∀ (xo yo : Operand) (xs ys : List Value), fitsB [.int .u64, .int .u64, .int .u64, .int .u64] xs = true → fitsB [.int .u64, .int .u64, .int .u64, .int .u64] ys = true → aBin Try.prog .eql 24 xo yo (.agg xs.toArray) (.agg ys.toArray) = some (.bool (cellsEq xs ys)) := fun _ _ _ _ hx hy => bin_eql_agg te_A4_uint64 ta_A4_uint64 hx hy
theorem bne_A4_uint64 : ∀ (xo yo : Operand) (xs ys : List Value), fitsB [.int .u64, .int .u64, .int .u64, .int .u64] xs = true → fitsB [.int .u64, .int .u64, .int .u64, .int .u64] ys = true → aBin Try.prog .neq 24 xo yo (.agg xs.toArray) (.agg ys.toArray) = some (.bool (!cellsEq xs ys)) := fun _ _ _ _ hx hy => bin_neq_agg te_A4_uint64 ta_A4_uint64 hx hy
theorem bs_A4_uint64 : ∀ (ty : TypeId) (ev : Operand → Value) (g : AMem) (n : Nat) (parts : Array (Nat × Operand)), aOp Try.prog ty ev g n (.build 24 parts) = (fillS 1 [.int .u64 0, .int .u64 0, .int .u64 0, .int .u64 0] (parts.toList.map fun p => (p.1, ev p.2))).map fun cs => (.agg cs.toArray, .none) := aOp_buildA tz_A4_uint64 tu_A4_uint64 ts_uint64
theorem ia_A4_uint64 : ∀ (b o : Nat) (i : Int), aIndexAddrR Try.prog (some (.array 4 23)) (.pointer (some ⟨b, o, none⟩)) i = if 0 ≤ i ∧ i < (4 : Nat) then some (.pointer (some ⟨b, o + i.toNat * 1, none⟩)) else none := fun b o i => aIndexAddrR_array i ts_uint64
theorem sl_A4_uint64 : ∀ (ty : TypeId) (ev : Operand → Value) (g : AMem) (n : Nat) (x : Operand), aOp Try.prog ty ev g n (.slice 24 x none none none) = (saR g 4 1 (ev x)).map fun v => (v, .none) := aOp_sliceA tu_A4_uint64 ts_uint64
theorem bl_S_uint64 : ∀ (ty : TypeId) (ev : Operand → Value) (g : AMem) (n : Nat) (len : Nat) (parts : Array (Nat × Operand)), len * 1 ≤ 16777216 → aOp Try.prog ty ev g n (.buildSlice 29 len parts) = (fillS 1 (zeroRow [.int .u64 0] len) (parts.toList.map fun p => (p.1, ev p.2))).map fun cs => (.slice (some ⟨n, 0, none⟩) len 1, .new (.row cs true)) := fun ty ev g n len parts hb => aOp_buildL tu_S_uint64 tz_uint64 ts_uint64 rfl ty ev g n len parts hb
theorem ap_S_uint64 : ∀ (g : AMem) (n : Nat) (s x : Value), aAppend Try.prog g n 29 s x = appR g n 0 8 s (aRead g 1 x) := inst_append tu_S_uint64 ts_uint64 tb_uint64 tv_uint64 rfl
theorem mk_S_uint64 : ∀ (n : Nat) (k k' : IntKind) (l c : Int), aMake Try.prog n 29 (.int k l) (.int k' c) = if 0 ≤ l ∧ l ≤ c ∧ c ≤ 70368744177664 ∧ 8 * c.toNat ≤ 70368744177664 then some (.slice (some ⟨n, 0, none⟩) l.toNat 1, .new (.row (zeroRow [.int .u64 0] l.toNat) true)) else none := inst_make tu_S_uint64 ts_uint64 tb_uint64 tv_uint64 rfl rfl
theorem sl_S_uint64 : ∀ (ty : TypeId) (ev : Operand → Value) (g : AMem) (n : Nat) (x : Operand) (lo hi : Option Operand), aOp Try.prog ty ev g n (.slice 29 x lo hi none) = (slR 1 (ev x) (lo.map ev) (hi.map ev)).map fun v => (v, .none) := aOp_sliceS tu_S_uint64 ts_uint64
theorem cp_S_uint64 : ∀ (g : AMem) (d s : Value), aCopy Try.prog g 29 d s = cpR g 1 d (aRead g 1 s) := aCopy_eq tu_S_uint64 ts_uint64
theorem beq_geo_Geo : ∀ (xo yo : Operand) (xs ys : List Value), fitsB [.int .i64, .int .i64, .int .i64] xs = true → fitsB [.int .i64, .int .i64, .int .i64] ys = true → aBin Try.prog .eql 49 xo yo (.agg xs.toArray) (.agg ys.toArray) = some (.bool (cellsEq xs ys)) := fun _ _ _ _ hx hy => bin_eql_agg te_geo_Geo ta_geo_Geo hx hy
theorem bne_geo_Geo : ∀ (xo yo : Operand) (xs ys : List Value), fitsB [.int .i64, .int .i64, .int .i64] xs = true → fitsB [.int .i64, .int .i64, .int .i64] ys = true → aBin Try.prog .neq 49 xo yo (.agg xs.toArray) (.agg ys.toArray) = some (.bool (!cellsEq xs ys)) := fun _ _ _ _ hx hy => bin_neq_agg te_geo_Geo ta_geo_Geo hx hy
theorem bs_geo_Geo : ∀ (ty : TypeId) (ev : Operand → Value) (g : AMem) (n : Nat) (parts : Array (Nat × Operand)), aOp Try.prog ty ev g n (.build 49 parts) = (fillP [(0, 1), (1, 1), (2, 1)] [.int .i64 0, .int .i64 0, .int .i64 0] (parts.toList.map fun p => (p.1, ev p.2))).map fun cs => (.agg cs.toArray, .none) := aOp_buildS tz_geo_Geo tp_geo_Geo
theorem beq_state_Reply : ∀ (xo yo : Operand) (xs ys : List Value), fitsB [.int .i64, .int .u64, .int .i64] xs = true → fitsB [.int .i64, .int .u64, .int .i64] ys = true → aBin Try.prog .eql 54 xo yo (.agg xs.toArray) (.agg ys.toArray) = some (.bool (cellsEq xs ys)) := fun _ _ _ _ hx hy => bin_eql_agg te_state_Reply ta_state_Reply hx hy
theorem bne_state_Reply : ∀ (xo yo : Operand) (xs ys : List Value), fitsB [.int .i64, .int .u64, .int .i64] xs = true → fitsB [.int .i64, .int .u64, .int .i64] ys = true → aBin Try.prog .neq 54 xo yo (.agg xs.toArray) (.agg ys.toArray) = some (.bool (!cellsEq xs ys)) := fun _ _ _ _ hx hy => bin_neq_agg te_state_Reply ta_state_Reply hx hy
theorem bs_state_Reply : ∀ (ty : TypeId) (ev : Operand → Value) (g : AMem) (n : Nat) (parts : Array (Nat × Operand)), aOp Try.prog ty ev g n (.build 54 parts) = (fillP [(0, 1), (1, 1), (2, 1)] [.int .i64 0, .int .u64 0, .int .i64 0] (parts.toList.map fun p => (p.1, ev p.2))).map fun cs => (.agg cs.toArray, .none) := aOp_buildS tz_state_Reply tp_state_Reply
theorem beq_wset_Write : ∀ (xo yo : Operand) (xs ys : List Value), fitsB [.int .i64, .int .u64] xs = true → fitsB [.int .i64, .int .u64] ys = true → aBin Try.prog .eql 60 xo yo (.agg xs.toArray) (.agg ys.toArray) = some (.bool (cellsEq xs ys)) := fun _ _ _ _ hx hy => bin_eql_agg te_wset_Write ta_wset_Write hx hy
theorem bne_wset_Write : ∀ (xo yo : Operand) (xs ys : List Value), fitsB [.int .i64, .int .u64] xs = true → fitsB [.int .i64, .int .u64] ys = true → aBin Try.prog .neq 60 xo yo (.agg xs.toArray) (.agg ys.toArray) = some (.bool (!cellsEq xs ys)) := fun _ _ _ _ hx hy => bin_neq_agg te_wset_Write ta_wset_Write hx hy
theorem bs_wset_Write : ∀ (ty : TypeId) (ev : Operand → Value) (g : AMem) (n : Nat) (parts : Array (Nat × Operand)), aOp Try.prog ty ev g n (.build 60 parts) = (fillP [(0, 1), (1, 1)] [.int .i64 0, .int .u64 0] (parts.toList.map fun p => (p.1, ev p.2))).map fun cs => (.agg cs.toArray, .none) := aOp_buildS tz_wset_Write tp_wset_Write
theorem bl_S_wset_Write : ∀ (ty : TypeId) (ev : Operand → Value) (g : AMem) (n : Nat) (len : Nat) (parts : Array (Nat × Operand)), len * 2 ≤ 16777216 → aOp Try.prog ty ev g n (.buildSlice 55 len parts) = (fillS 2 (zeroRow [.int .i64 0, .int .u64 0] len) (parts.toList.map fun p => (p.1, ev p.2))).map fun cs => (.slice (some ⟨n, 0, none⟩) len 2, .new (.row cs true)) := fun ty ev g n len parts hb => aOp_buildL tu_S_wset_Write tz_wset_Write ts_wset_Write rfl ty ev g n len parts hb
theorem ap_S_wset_Write : ∀ (g : AMem) (n : Nat) (s x : Value), aAppend Try.prog g n 55 s x = appR g n 1 16 s (aRead g 2 x) := inst_append tu_S_wset_Write ts_wset_Write tb_wset_Write tv_wset_Write rfl
theorem mk_S_wset_Write : ∀ (n : Nat) (k k' : IntKind) (l c : Int), aMake Try.prog n 55 (.int k l) (.int k' c) = if 0 ≤ l ∧ l ≤ c ∧ c ≤ 70368744177664 ∧ 16 * c.toNat ≤ 70368744177664 then some (.slice (some ⟨n, 0, none⟩) l.toNat 2, .new (.row (zeroRow [.int .i64 0, .int .u64 0] l.toNat) true)) else none := inst_make tu_S_wset_Write ts_wset_Write tb_wset_Write tv_wset_Write rfl rfl
theorem sl_S_wset_Write : ∀ (ty : TypeId) (ev : Operand → Value) (g : AMem) (n : Nat) (x : Operand) (lo hi : Option Operand), aOp Try.prog ty ev g n (.slice 55 x lo hi none) = (slR 2 (ev x) (lo.map ev) (hi.map ev)).map fun v => (v, .none) := aOp_sliceS tu_S_wset_Write ts_wset_Write
theorem cp_S_wset_Write : ∀ (g : AMem) (d s : Value), aCopy Try.prog g 55 d s = cpR g 2 d (aRead g 2 s) := aCopy_eq tu_S_wset_Write ts_wset_Write
theorem bs_opd_Desc : ∀ (ty : TypeId) (ev : Operand → Value) (g : AMem) (n : Nat) (parts : Array (Nat × Operand)), aOp Try.prog ty ev g n (.build 57 parts) = (fillP [(0, 1), (1, 1), (2, 4), (6, 3), (9, 1)] [.int .i64 0, .int .u64 0, .int .u64 0, .int .u64 0, .int .u64 0, .int .u64 0, .int .i64 0, .int .u64 0, .int .i64 0, .slice none 0 0] (parts.toList.map fun p => (p.1, ev p.2))).map fun cs => (.agg cs.toArray, .none) := aOp_buildS tz_opd_Desc tp_opd_Desc
theorem beq_reeveref11_Reply : ∀ (xo yo : Operand) (xs ys : List Value), fitsB [.int .i64, .int .u64, .int .i64] xs = true → fitsB [.int .i64, .int .u64, .int .i64] ys = true → aBin Try.prog .eql 66 xo yo (.agg xs.toArray) (.agg ys.toArray) = some (.bool (cellsEq xs ys)) := fun _ _ _ _ hx hy => bin_eql_agg te_reeveref11_Reply ta_reeveref11_Reply hx hy
theorem bne_reeveref11_Reply : ∀ (xo yo : Operand) (xs ys : List Value), fitsB [.int .i64, .int .u64, .int .i64] xs = true → fitsB [.int .i64, .int .u64, .int .i64] ys = true → aBin Try.prog .neq 66 xo yo (.agg xs.toArray) (.agg ys.toArray) = some (.bool (!cellsEq xs ys)) := fun _ _ _ _ hx hy => bin_neq_agg te_reeveref11_Reply ta_reeveref11_Reply hx hy
theorem bs_reeveref11_Reply : ∀ (ty : TypeId) (ev : Operand → Value) (g : AMem) (n : Nat) (parts : Array (Nat × Operand)), aOp Try.prog ty ev g n (.build 66 parts) = (fillP [(0, 1), (1, 1), (2, 1)] [.int .i64 0, .int .u64 0, .int .i64 0] (parts.toList.map fun p => (p.1, ev p.2))).map fun cs => (.agg cs.toArray, .none) := aOp_buildS tz_reeveref11_Reply tp_reeveref11_Reply
theorem beq_reeveref22_Write : ∀ (xo yo : Operand) (xs ys : List Value), fitsB [.int .i64, .int .u64] xs = true → fitsB [.int .i64, .int .u64] ys = true → aBin Try.prog .eql 92 xo yo (.agg xs.toArray) (.agg ys.toArray) = some (.bool (cellsEq xs ys)) := fun _ _ _ _ hx hy => bin_eql_agg te_reeveref22_Write ta_reeveref22_Write hx hy
theorem bne_reeveref22_Write : ∀ (xo yo : Operand) (xs ys : List Value), fitsB [.int .i64, .int .u64] xs = true → fitsB [.int .i64, .int .u64] ys = true → aBin Try.prog .neq 92 xo yo (.agg xs.toArray) (.agg ys.toArray) = some (.bool (!cellsEq xs ys)) := fun _ _ _ _ hx hy => bin_neq_agg te_reeveref22_Write ta_reeveref22_Write hx hy
theorem bs_reeveref22_Write : ∀ (ty : TypeId) (ev : Operand → Value) (g : AMem) (n : Nat) (parts : Array (Nat × Operand)), aOp Try.prog ty ev g n (.build 92 parts) = (fillP [(0, 1), (1, 1)] [.int .i64 0, .int .u64 0] (parts.toList.map fun p => (p.1, ev p.2))).map fun cs => (.agg cs.toArray, .none) := aOp_buildS tz_reeveref22_Write tp_reeveref22_Write
theorem bl_S_reeveref22_Write : ∀ (ty : TypeId) (ev : Operand → Value) (g : AMem) (n : Nat) (len : Nat) (parts : Array (Nat × Operand)), len * 2 ≤ 16777216 → aOp Try.prog ty ev g n (.buildSlice 67 len parts) = (fillS 2 (zeroRow [.int .i64 0, .int .u64 0] len) (parts.toList.map fun p => (p.1, ev p.2))).map fun cs => (.slice (some ⟨n, 0, none⟩) len 2, .new (.row cs true)) := fun ty ev g n len parts hb => aOp_buildL tu_S_reeveref22_Write tz_reeveref22_Write ts_reeveref22_Write rfl ty ev g n len parts hb
theorem ap_S_reeveref22_Write : ∀ (g : AMem) (n : Nat) (s x : Value), aAppend Try.prog g n 67 s x = appR g n 1 16 s (aRead g 2 x) := inst_append tu_S_reeveref22_Write ts_reeveref22_Write tb_reeveref22_Write tv_reeveref22_Write rfl
theorem mk_S_reeveref22_Write : ∀ (n : Nat) (k k' : IntKind) (l c : Int), aMake Try.prog n 67 (.int k l) (.int k' c) = if 0 ≤ l ∧ l ≤ c ∧ c ≤ 70368744177664 ∧ 16 * c.toNat ≤ 70368744177664 then some (.slice (some ⟨n, 0, none⟩) l.toNat 2, .new (.row (zeroRow [.int .i64 0, .int .u64 0] l.toNat) true)) else none := inst_make tu_S_reeveref22_Write ts_reeveref22_Write tb_reeveref22_Write tv_reeveref22_Write rfl rfl
theorem sl_S_reeveref22_Write : ∀ (ty : TypeId) (ev : Operand → Value) (g : AMem) (n : Nat) (x : Operand) (lo hi : Option Operand), aOp Try.prog ty ev g n (.slice 67 x lo hi none) = (slR 2 (ev x) (lo.map ev) (hi.map ev)).map fun v => (v, .none) := aOp_sliceS tu_S_reeveref22_Write ts_reeveref22_Write
theorem cp_S_reeveref22_Write : ∀ (g : AMem) (d s : Value), aCopy Try.prog g 67 d s = cpR g 2 d (aRead g 2 s) := aCopy_eq tu_S_reeveref22_Write ts_reeveref22_Write
theorem bs_reeveref22_Desc : ∀ (ty : TypeId) (ev : Operand → Value) (g : AMem) (n : Nat) (parts : Array (Nat × Operand)), aOp Try.prog ty ev g n (.build 69 parts) = (fillP [(0, 1), (1, 1), (2, 4), (6, 3), (9, 1)] [.int .i64 0, .int .u64 0, .int .u64 0, .int .u64 0, .int .u64 0, .int .u64 0, .int .i64 0, .int .u64 0, .int .i64 0, .slice none 0 0] (parts.toList.map fun p => (p.1, ev p.2))).map fun cs => (.agg cs.toArray, .none) := aOp_buildS tz_reeveref22_Desc tp_reeveref22_Desc
theorem beq_reeveref1_Geo : ∀ (xo yo : Operand) (xs ys : List Value), fitsB [.int .i64, .int .i64, .int .i64] xs = true → fitsB [.int .i64, .int .i64, .int .i64] ys = true → aBin Try.prog .eql 73 xo yo (.agg xs.toArray) (.agg ys.toArray) = some (.bool (cellsEq xs ys)) := fun _ _ _ _ hx hy => bin_eql_agg te_reeveref1_Geo ta_reeveref1_Geo hx hy
theorem bne_reeveref1_Geo : ∀ (xo yo : Operand) (xs ys : List Value), fitsB [.int .i64, .int .i64, .int .i64] xs = true → fitsB [.int .i64, .int .i64, .int .i64] ys = true → aBin Try.prog .neq 73 xo yo (.agg xs.toArray) (.agg ys.toArray) = some (.bool (!cellsEq xs ys)) := fun _ _ _ _ hx hy => bin_neq_agg te_reeveref1_Geo ta_reeveref1_Geo hx hy
theorem bs_reeveref1_Geo : ∀ (ty : TypeId) (ev : Operand → Value) (g : AMem) (n : Nat) (parts : Array (Nat × Operand)), aOp Try.prog ty ev g n (.build 73 parts) = (fillP [(0, 1), (1, 1), (2, 1)] [.int .i64 0, .int .i64 0, .int .i64 0] (parts.toList.map fun p => (p.1, ev p.2))).map fun cs => (.agg cs.toArray, .none) := aOp_buildS tz_reeveref1_Geo tp_reeveref1_Geo
theorem beq_tag_Field : ∀ (xo yo : Operand) (xs ys : List Value), fitsB [.int .i64, .int .i64] xs = true → fitsB [.int .i64, .int .i64] ys = true → aBin Try.prog .eql 100 xo yo (.agg xs.toArray) (.agg ys.toArray) = some (.bool (cellsEq xs ys)) := fun _ _ _ _ hx hy => bin_eql_agg te_tag_Field ta_tag_Field hx hy
theorem bne_tag_Field : ∀ (xo yo : Operand) (xs ys : List Value), fitsB [.int .i64, .int .i64] xs = true → fitsB [.int .i64, .int .i64] ys = true → aBin Try.prog .neq 100 xo yo (.agg xs.toArray) (.agg ys.toArray) = some (.bool (!cellsEq xs ys)) := fun _ _ _ _ hx hy => bin_neq_agg te_tag_Field ta_tag_Field hx hy
theorem bs_tag_Field : ∀ (ty : TypeId) (ev : Operand → Value) (g : AMem) (n : Nat) (parts : Array (Nat × Operand)), aOp Try.prog ty ev g n (.build 100 parts) = (fillP [(0, 1), (1, 1)] [.int .i64 0, .int .i64 0] (parts.toList.map fun p => (p.1, ev p.2))).map fun cs => (.agg cs.toArray, .none) := aOp_buildS tz_tag_Field tp_tag_Field
theorem bl_S_tag_Field : ∀ (ty : TypeId) (ev : Operand → Value) (g : AMem) (n : Nat) (len : Nat) (parts : Array (Nat × Operand)), len * 2 ≤ 16777216 → aOp Try.prog ty ev g n (.buildSlice 85 len parts) = (fillS 2 (zeroRow [.int .i64 0, .int .i64 0] len) (parts.toList.map fun p => (p.1, ev p.2))).map fun cs => (.slice (some ⟨n, 0, none⟩) len 2, .new (.row cs true)) := fun ty ev g n len parts hb => aOp_buildL tu_S_tag_Field tz_tag_Field ts_tag_Field rfl ty ev g n len parts hb
theorem ap_S_tag_Field : ∀ (g : AMem) (n : Nat) (s x : Value), aAppend Try.prog g n 85 s x = appR g n 1 16 s (aRead g 2 x) := inst_append tu_S_tag_Field ts_tag_Field tb_tag_Field tv_tag_Field rfl
theorem mk_S_tag_Field : ∀ (n : Nat) (k k' : IntKind) (l c : Int), aMake Try.prog n 85 (.int k l) (.int k' c) = if 0 ≤ l ∧ l ≤ c ∧ c ≤ 70368744177664 ∧ 16 * c.toNat ≤ 70368744177664 then some (.slice (some ⟨n, 0, none⟩) l.toNat 2, .new (.row (zeroRow [.int .i64 0, .int .i64 0] l.toNat) true)) else none := inst_make tu_S_tag_Field ts_tag_Field tb_tag_Field tv_tag_Field rfl rfl
theorem sl_S_tag_Field : ∀ (ty : TypeId) (ev : Operand → Value) (g : AMem) (n : Nat) (x : Operand) (lo hi : Option Operand), aOp Try.prog ty ev g n (.slice 85 x lo hi none) = (slR 2 (ev x) (lo.map ev) (hi.map ev)).map fun v => (v, .none) := aOp_sliceS tu_S_tag_Field ts_tag_Field
theorem cp_S_tag_Field : ∀ (g : AMem) (d s : Value), aCopy Try.prog g 85 d s = cpR g 2 d (aRead g 2 s) := aCopy_eq tu_S_tag_Field ts_tag_Field
theorem q_int : (tsize Try.prog 3 = some 1) ∧ (tagg Try.prog 3 = some false) ∧ (zeroFlat Try.prog 3 = some [.int .i64 0]) ∧ (Try.prog.underlying 3 = some (.int .i64)) := ⟨ts_int, ta_int, tz_int, tu_int⟩
theorem q_bool : (tsize Try.prog 4 = some 1) ∧ (tagg Try.prog 4 = some false) ∧ (zeroFlat Try.prog 4 = some [.bool false]) ∧ (Try.prog.underlying 4 = some (.bool)) := ⟨ts_bool, ta_bool, tz_bool, tu_bool⟩
theorem q_interface : (tsize Try.prog 20 = some 1) ∧ (tagg Try.prog 20 = some false) ∧ (zeroFlat Try.prog 20 = some [.nilIface]) := ⟨ts_interface, ta_interface, tz_interface⟩
theorem q_uint64 : (tsize Try.prog 23 = some 1) ∧ (tagg Try.prog 23 = some false) ∧ (zeroFlat Try.prog 23 = some [.int .u64 0]) ∧ (Try.prog.underlying 23 = some (.int .u64)) := ⟨ts_uint64, ta_uint64, tz_uint64, tu_uint64⟩
theorem q_A4_uint64 : (tsize Try.prog 24 = some 4) ∧ (tagg Try.prog 24 = some true) ∧ (zeroFlat Try.prog 24 = some [.int .u64 0, .int .u64 0, .int .u64 0, .int .u64 0]) ∧ (Try.prog.underlying 24 = some (.array 4 23)) ∧ (∀ (ty : TypeId) (ev : Operand → Value) (g : AMem) (n : Nat) (parts : Array (Nat × Operand)), aOp Try.prog ty ev g n (.build 24 parts) = (fillS 1 [.int .u64 0, .int .u64 0, .int .u64 0, .int .u64 0] (parts.toList.map fun p => (p.1, ev p.2))).map fun cs => (.agg cs.toArray, .none)) ∧ (∀ (b o : Nat) (i : Int), aIndexAddrR Try.prog (some (.array 4 23)) (.pointer (some ⟨b, o, none⟩)) i = if 0 ≤ i ∧ i < (4 : Nat) then some (.pointer (some ⟨b, o + i.toNat * 1, none⟩)) else none) ∧ (∀ (ty : TypeId) (ev : Operand → Value) (g : AMem) (n : Nat) (x : Operand), aOp Try.prog ty ev g n (.slice 24 x none none none) = (saR g 4 1 (ev x)).map fun v => (v, .none)) := ⟨ts_A4_uint64, ta_A4_uint64, tz_A4_uint64, tu_A4_uint64, bs_A4_uint64, ia_A4_uint64, sl_A4_uint64⟩
theorem q_S_uint64 : (tsize Try.prog 29 = some 1) ∧ (tagg Try.prog 29 = some false) ∧ (zeroFlat Try.prog 29 = some [.slice none 0 0]) ∧ (Try.prog.underlying 29 = some (.slice 23)) ∧ (∀ (ty : TypeId) (ev : Operand → Value) (g : AMem) (n : Nat) (len : Nat) (parts : Array (Nat × Operand)), len * 1 ≤ 16777216 → aOp Try.prog ty ev g n (.buildSlice 29 len parts) = (fillS 1 (zeroRow [.int .u64 0] len) (parts.toList.map fun p => (p.1, ev p.2))).map fun cs => (.slice (some ⟨n, 0, none⟩) len 1, .new (.row cs true))) ∧ (∀ (g : AMem) (n : Nat) (s x : Value), aAppend Try.prog g n 29 s x = appR g n 0 8 s (aRead g 1 x)) ∧ (∀ (n : Nat) (k k' : IntKind) (l c : Int), aMake Try.prog n 29 (.int k l) (.int k' c) = if 0 ≤ l ∧ l ≤ c ∧ c ≤ 70368744177664 ∧ 8 * c.toNat ≤ 70368744177664 then some (.slice (some ⟨n, 0, none⟩) l.toNat 1, .new (.row (zeroRow [.int .u64 0] l.toNat) true)) else none) ∧ (∀ (ty : TypeId) (ev : Operand → Value) (g : AMem) (n : Nat) (x : Operand) (lo hi : Option Operand), aOp Try.prog ty ev g n (.slice 29 x lo hi none) = (slR 1 (ev x) (lo.map ev) (hi.map ev)).map fun v => (v, .none)) ∧ (∀ (g : AMem) (d s : Value), aCopy Try.prog g 29 d s = cpR g 1 d (aRead g 1 s)) := ⟨ts_S_uint64, ta_S_uint64, tz_S_uint64, tu_S_uint64, bl_S_uint64, ap_S_uint64, mk_S_uint64, sl_S_uint64, cp_S_uint64⟩
theorem q_geo_Geo : (tsize Try.prog 49 = some 3) ∧ (tagg Try.prog 49 = some true) ∧ (zeroFlat Try.prog 49 = some [.int .i64 0, .int .i64 0, .int .i64 0]) ∧ (tplaces Try.prog 49 = some [(0, 1), (1, 1), (2, 1)]) ∧ (tfield Try.prog 49 0 = some (3, 0)) ∧ (tfield' Try.prog 49 0 = some (3, 0)) ∧ (tfield Try.prog 49 1 = some (3, 1)) ∧ (tfield' Try.prog 49 1 = some (3, 1)) ∧ (tfield Try.prog 49 2 = some (3, 2)) ∧ (tfield' Try.prog 49 2 = some (3, 2)) ∧ (∀ (ty : TypeId) (ev : Operand → Value) (g : AMem) (n : Nat) (parts : Array (Nat × Operand)), aOp Try.prog ty ev g n (.build 49 parts) = (fillP [(0, 1), (1, 1), (2, 1)] [.int .i64 0, .int .i64 0, .int .i64 0] (parts.toList.map fun p => (p.1, ev p.2))).map fun cs => (.agg cs.toArray, .none)) := ⟨ts_geo_Geo, ta_geo_Geo, tz_geo_Geo, tp_geo_Geo, tf_geo_Geo_Threads, tg_geo_Geo_Threads, tf_geo_Geo_Slots, tg_geo_Geo_Slots, tf_geo_Geo_Things, tg_geo_Geo_Things, bs_geo_Geo⟩
theorem q_api_Errno : (tsize Try.prog 52 = some 1) ∧ (tagg Try.prog 52 = some false) ∧ (zeroFlat Try.prog 52 = some [.int .i64 0]) ∧ (Try.prog.underlying 52 = some (.int .i64)) := ⟨ts_api_Errno, ta_api_Errno, tz_api_Errno, tu_api_Errno⟩
theorem q_state_Reply : (tsize Try.prog 54 = some 3) ∧ (tagg Try.prog 54 = some true) ∧ (zeroFlat Try.prog 54 = some [.int .i64 0, .int .u64 0, .int .i64 0]) ∧ (tplaces Try.prog 54 = some [(0, 1), (1, 1), (2, 1)]) ∧ (tfield Try.prog 54 0 = some (52, 0)) ∧ (tfield' Try.prog 54 0 = some (52, 0)) ∧ (tfield Try.prog 54 1 = some (23, 1)) ∧ (tfield' Try.prog 54 1 = some (23, 1)) ∧ (tfield Try.prog 54 2 = some (3, 2)) ∧ (tfield' Try.prog 54 2 = some (3, 2)) ∧ (∀ (ty : TypeId) (ev : Operand → Value) (g : AMem) (n : Nat) (parts : Array (Nat × Operand)), aOp Try.prog ty ev g n (.build 54 parts) = (fillP [(0, 1), (1, 1), (2, 1)] [.int .i64 0, .int .u64 0, .int .i64 0] (parts.toList.map fun p => (p.1, ev p.2))).map fun cs => (.agg cs.toArray, .none)) := ⟨ts_state_Reply, ta_state_Reply, tz_state_Reply, tp_state_Reply, tf_state_Reply_Err, tg_state_Reply_Err, tf_state_Reply_W, tg_state_Reply_W, tf_state_Reply_N, tg_state_Reply_N, bs_state_Reply⟩
theorem q_S_wset_Write : (tsize Try.prog 55 = some 1) ∧ (tagg Try.prog 55 = some false) ∧ (zeroFlat Try.prog 55 = some [.slice none 0 0]) ∧ (Try.prog.underlying 55 = some (.slice 60)) ∧ (∀ (ty : TypeId) (ev : Operand → Value) (g : AMem) (n : Nat) (len : Nat) (parts : Array (Nat × Operand)), len * 2 ≤ 16777216 → aOp Try.prog ty ev g n (.buildSlice 55 len parts) = (fillS 2 (zeroRow [.int .i64 0, .int .u64 0] len) (parts.toList.map fun p => (p.1, ev p.2))).map fun cs => (.slice (some ⟨n, 0, none⟩) len 2, .new (.row cs true))) ∧ (∀ (g : AMem) (n : Nat) (s x : Value), aAppend Try.prog g n 55 s x = appR g n 1 16 s (aRead g 2 x)) ∧ (∀ (n : Nat) (k k' : IntKind) (l c : Int), aMake Try.prog n 55 (.int k l) (.int k' c) = if 0 ≤ l ∧ l ≤ c ∧ c ≤ 70368744177664 ∧ 16 * c.toNat ≤ 70368744177664 then some (.slice (some ⟨n, 0, none⟩) l.toNat 2, .new (.row (zeroRow [.int .i64 0, .int .u64 0] l.toNat) true)) else none) ∧ (∀ (ty : TypeId) (ev : Operand → Value) (g : AMem) (n : Nat) (x : Operand) (lo hi : Option Operand), aOp Try.prog ty ev g n (.slice 55 x lo hi none) = (slR 2 (ev x) (lo.map ev) (hi.map ev)).map fun v => (v, .none)) ∧ (∀ (g : AMem) (d s : Value), aCopy Try.prog g 55 d s = cpR g 2 d (aRead g 2 s)) := ⟨ts_S_wset_Write, ta_S_wset_Write, tz_S_wset_Write, tu_S_wset_Write, bl_S_wset_Write, ap_S_wset_Write, mk_S_wset_Write, sl_S_wset_Write, cp_S_wset_Write⟩
theorem q_opd_Desc : (tsize Try.prog 57 = some 10) ∧ (tagg Try.prog 57 = some true) ∧ (zeroFlat Try.prog 57 = some [.int .i64 0, .int .u64 0, .int .u64 0, .int .u64 0, .int .u64 0, .int .u64 0, .int .i64 0, .int .u64 0, .int .i64 0, .slice none 0 0]) ∧ (tplaces Try.prog 57 = some [(0, 1), (1, 1), (2, 4), (6, 3), (9, 1)]) ∧ (tfield Try.prog 57 0 = some (3, 0)) ∧ (tfield' Try.prog 57 0 = some (3, 0)) ∧ (tfield Try.prog 57 1 = some (23, 1)) ∧ (tfield' Try.prog 57 1 = some (23, 1)) ∧ (tfield Try.prog 57 2 = some (24, 2)) ∧ (tfield' Try.prog 57 2 = some (24, 2)) ∧ (tfield Try.prog 57 3 = some (54, 6)) ∧ (tfield' Try.prog 57 3 = some (54, 6)) ∧ (tfield Try.prog 57 4 = some (55, 9)) ∧ (tfield' Try.prog 57 4 = some (55, 9)) ∧ (∀ (ty : TypeId) (ev : Operand → Value) (g : AMem) (n : Nat) (parts : Array (Nat × Operand)), aOp Try.prog ty ev g n (.build 57 parts) = (fillP [(0, 1), (1, 1), (2, 4), (6, 3), (9, 1)] [.int .i64 0, .int .u64 0, .int .u64 0, .int .u64 0, .int .u64 0, .int .u64 0, .int .i64 0, .int .u64 0, .int .i64 0, .slice none 0 0] (parts.toList.map fun p => (p.1, ev p.2))).map fun cs => (.agg cs.toArray, .none)) := ⟨ts_opd_Desc, ta_opd_Desc, tz_opd_Desc, tp_opd_Desc, tf_opd_Desc_Status, tg_opd_Desc_Status, tf_opd_Desc_Seq, tg_opd_Desc_Seq, tf_opd_Desc_L, tg_opd_Desc_L, tf_opd_Desc_Reply, tg_opd_Desc_Reply, tf_opd_Desc_W, tg_opd_Desc_W, bs_opd_Desc⟩
theorem q_wset_Write : (tsize Try.prog 60 = some 2) ∧ (tagg Try.prog 60 = some true) ∧ (zeroFlat Try.prog 60 = some [.int .i64 0, .int .u64 0]) ∧ (tplaces Try.prog 60 = some [(0, 1), (1, 1)]) ∧ (tfield Try.prog 60 0 = some (3, 0)) ∧ (tfield' Try.prog 60 0 = some (3, 0)) ∧ (tfield Try.prog 60 1 = some (23, 1)) ∧ (tfield' Try.prog 60 1 = some (23, 1)) ∧ (∀ (ty : TypeId) (ev : Operand → Value) (g : AMem) (n : Nat) (parts : Array (Nat × Operand)), aOp Try.prog ty ev g n (.build 60 parts) = (fillP [(0, 1), (1, 1)] [.int .i64 0, .int .u64 0] (parts.toList.map fun p => (p.1, ev p.2))).map fun cs => (.agg cs.toArray, .none)) := ⟨ts_wset_Write, ta_wset_Write, tz_wset_Write, tp_wset_Write, tf_wset_Write_At, tg_wset_Write_At, tf_wset_Write_V, tg_wset_Write_V, bs_wset_Write⟩
theorem q_reeveref11_Reply : (tsize Try.prog 66 = some 3) ∧ (tagg Try.prog 66 = some true) ∧ (zeroFlat Try.prog 66 = some [.int .i64 0, .int .u64 0, .int .i64 0]) ∧ (tplaces Try.prog 66 = some [(0, 1), (1, 1), (2, 1)]) ∧ (tfield Try.prog 66 0 = some (52, 0)) ∧ (tfield' Try.prog 66 0 = some (52, 0)) ∧ (tfield Try.prog 66 1 = some (23, 1)) ∧ (tfield' Try.prog 66 1 = some (23, 1)) ∧ (tfield Try.prog 66 2 = some (3, 2)) ∧ (tfield' Try.prog 66 2 = some (3, 2)) ∧ (∀ (ty : TypeId) (ev : Operand → Value) (g : AMem) (n : Nat) (parts : Array (Nat × Operand)), aOp Try.prog ty ev g n (.build 66 parts) = (fillP [(0, 1), (1, 1), (2, 1)] [.int .i64 0, .int .u64 0, .int .i64 0] (parts.toList.map fun p => (p.1, ev p.2))).map fun cs => (.agg cs.toArray, .none)) := ⟨ts_reeveref11_Reply, ta_reeveref11_Reply, tz_reeveref11_Reply, tp_reeveref11_Reply, tf_reeveref11_Reply_Err, tg_reeveref11_Reply_Err, tf_reeveref11_Reply_W, tg_reeveref11_Reply_W, tf_reeveref11_Reply_N, tg_reeveref11_Reply_N, bs_reeveref11_Reply⟩
theorem q_S_reeveref22_Write : (tsize Try.prog 67 = some 1) ∧ (tagg Try.prog 67 = some false) ∧ (zeroFlat Try.prog 67 = some [.slice none 0 0]) ∧ (Try.prog.underlying 67 = some (.slice 92)) ∧ (∀ (ty : TypeId) (ev : Operand → Value) (g : AMem) (n : Nat) (len : Nat) (parts : Array (Nat × Operand)), len * 2 ≤ 16777216 → aOp Try.prog ty ev g n (.buildSlice 67 len parts) = (fillS 2 (zeroRow [.int .i64 0, .int .u64 0] len) (parts.toList.map fun p => (p.1, ev p.2))).map fun cs => (.slice (some ⟨n, 0, none⟩) len 2, .new (.row cs true))) ∧ (∀ (g : AMem) (n : Nat) (s x : Value), aAppend Try.prog g n 67 s x = appR g n 1 16 s (aRead g 2 x)) ∧ (∀ (n : Nat) (k k' : IntKind) (l c : Int), aMake Try.prog n 67 (.int k l) (.int k' c) = if 0 ≤ l ∧ l ≤ c ∧ c ≤ 70368744177664 ∧ 16 * c.toNat ≤ 70368744177664 then some (.slice (some ⟨n, 0, none⟩) l.toNat 2, .new (.row (zeroRow [.int .i64 0, .int .u64 0] l.toNat) true)) else none) ∧ (∀ (ty : TypeId) (ev : Operand → Value) (g : AMem) (n : Nat) (x : Operand) (lo hi : Option Operand), aOp Try.prog ty ev g n (.slice 67 x lo hi none) = (slR 2 (ev x) (lo.map ev) (hi.map ev)).map fun v => (v, .none)) ∧ (∀ (g : AMem) (d s : Value), aCopy Try.prog g 67 d s = cpR g 2 d (aRead g 2 s)) := ⟨ts_S_reeveref22_Write, ta_S_reeveref22_Write, tz_S_reeveref22_Write, tu_S_reeveref22_Write, bl_S_reeveref22_Write, ap_S_reeveref22_Write, mk_S_reeveref22_Write, sl_S_reeveref22_Write, cp_S_reeveref22_Write⟩
theorem q_reeveref22_Desc : (tsize Try.prog 69 = some 10) ∧ (tagg Try.prog 69 = some true) ∧ (zeroFlat Try.prog 69 = some [.int .i64 0, .int .u64 0, .int .u64 0, .int .u64 0, .int .u64 0, .int .u64 0, .int .i64 0, .int .u64 0, .int .i64 0, .slice none 0 0]) ∧ (tplaces Try.prog 69 = some [(0, 1), (1, 1), (2, 4), (6, 3), (9, 1)]) ∧ (tfield Try.prog 69 0 = some (3, 0)) ∧ (tfield' Try.prog 69 0 = some (3, 0)) ∧ (tfield Try.prog 69 1 = some (23, 1)) ∧ (tfield' Try.prog 69 1 = some (23, 1)) ∧ (tfield Try.prog 69 2 = some (24, 2)) ∧ (tfield' Try.prog 69 2 = some (24, 2)) ∧ (tfield Try.prog 69 3 = some (66, 6)) ∧ (tfield' Try.prog 69 3 = some (66, 6)) ∧ (tfield Try.prog 69 4 = some (67, 9)) ∧ (tfield' Try.prog 69 4 = some (67, 9)) ∧ (∀ (ty : TypeId) (ev : Operand → Value) (g : AMem) (n : Nat) (parts : Array (Nat × Operand)), aOp Try.prog ty ev g n (.build 69 parts) = (fillP [(0, 1), (1, 1), (2, 4), (6, 3), (9, 1)] [.int .i64 0, .int .u64 0, .int .u64 0, .int .u64 0, .int .u64 0, .int .u64 0, .int .i64 0, .int .u64 0, .int .i64 0, .slice none 0 0] (parts.toList.map fun p => (p.1, ev p.2))).map fun cs => (.agg cs.toArray, .none)) := ⟨ts_reeveref22_Desc, ta_reeveref22_Desc, tz_reeveref22_Desc, tp_reeveref22_Desc, tf_reeveref22_Desc_Status, tg_reeveref22_Desc_Status, tf_reeveref22_Desc_Seq, tg_reeveref22_Desc_Seq, tf_reeveref22_Desc_L, tg_reeveref22_Desc_L, tf_reeveref22_Desc_Reply, tg_reeveref22_Desc_Reply, tf_reeveref22_Desc_W, tg_reeveref22_Desc_W, bs_reeveref22_Desc⟩
theorem q_reeveref1_Geo : (tsize Try.prog 73 = some 3) ∧ (tagg Try.prog 73 = some true) ∧ (zeroFlat Try.prog 73 = some [.int .i64 0, .int .i64 0, .int .i64 0]) ∧ (tplaces Try.prog 73 = some [(0, 1), (1, 1), (2, 1)]) ∧ (tfield Try.prog 73 0 = some (3, 0)) ∧ (tfield' Try.prog 73 0 = some (3, 0)) ∧ (tfield Try.prog 73 1 = some (3, 1)) ∧ (tfield' Try.prog 73 1 = some (3, 1)) ∧ (tfield Try.prog 73 2 = some (3, 2)) ∧ (tfield' Try.prog 73 2 = some (3, 2)) ∧ (∀ (ty : TypeId) (ev : Operand → Value) (g : AMem) (n : Nat) (parts : Array (Nat × Operand)), aOp Try.prog ty ev g n (.build 73 parts) = (fillP [(0, 1), (1, 1), (2, 1)] [.int .i64 0, .int .i64 0, .int .i64 0] (parts.toList.map fun p => (p.1, ev p.2))).map fun cs => (.agg cs.toArray, .none)) := ⟨ts_reeveref1_Geo, ta_reeveref1_Geo, tz_reeveref1_Geo, tp_reeveref1_Geo, tf_reeveref1_Geo_Threads, tg_reeveref1_Geo_Threads, tf_reeveref1_Geo_Slots, tg_reeveref1_Geo_Slots, tf_reeveref1_Geo_Things, tg_reeveref1_Geo_Things, bs_reeveref1_Geo⟩
theorem q_S_tag_Field : (tsize Try.prog 85 = some 1) ∧ (tagg Try.prog 85 = some false) ∧ (zeroFlat Try.prog 85 = some [.slice none 0 0]) ∧ (Try.prog.underlying 85 = some (.slice 100)) ∧ (∀ (ty : TypeId) (ev : Operand → Value) (g : AMem) (n : Nat) (len : Nat) (parts : Array (Nat × Operand)), len * 2 ≤ 16777216 → aOp Try.prog ty ev g n (.buildSlice 85 len parts) = (fillS 2 (zeroRow [.int .i64 0, .int .i64 0] len) (parts.toList.map fun p => (p.1, ev p.2))).map fun cs => (.slice (some ⟨n, 0, none⟩) len 2, .new (.row cs true))) ∧ (∀ (g : AMem) (n : Nat) (s x : Value), aAppend Try.prog g n 85 s x = appR g n 1 16 s (aRead g 2 x)) ∧ (∀ (n : Nat) (k k' : IntKind) (l c : Int), aMake Try.prog n 85 (.int k l) (.int k' c) = if 0 ≤ l ∧ l ≤ c ∧ c ≤ 70368744177664 ∧ 16 * c.toNat ≤ 70368744177664 then some (.slice (some ⟨n, 0, none⟩) l.toNat 2, .new (.row (zeroRow [.int .i64 0, .int .i64 0] l.toNat) true)) else none) ∧ (∀ (ty : TypeId) (ev : Operand → Value) (g : AMem) (n : Nat) (x : Operand) (lo hi : Option Operand), aOp Try.prog ty ev g n (.slice 85 x lo hi none) = (slR 2 (ev x) (lo.map ev) (hi.map ev)).map fun v => (v, .none)) ∧ (∀ (g : AMem) (d s : Value), aCopy Try.prog g 85 d s = cpR g 2 d (aRead g 2 s)) := ⟨ts_S_tag_Field, ta_S_tag_Field, tz_S_tag_Field, tu_S_tag_Field, bl_S_tag_Field, ap_S_tag_Field, mk_S_tag_Field, sl_S_tag_Field, cp_S_tag_Field⟩
theorem q_reeveref22_Write : (tsize Try.prog 92 = some 2) ∧ (tagg Try.prog 92 = some true) ∧ (zeroFlat Try.prog 92 = some [.int .i64 0, .int .u64 0]) ∧ (tplaces Try.prog 92 = some [(0, 1), (1, 1)]) ∧ (tfield Try.prog 92 0 = some (3, 0)) ∧ (tfield' Try.prog 92 0 = some (3, 0)) ∧ (tfield Try.prog 92 1 = some (23, 1)) ∧ (tfield' Try.prog 92 1 = some (23, 1)) ∧ (∀ (ty : TypeId) (ev : Operand → Value) (g : AMem) (n : Nat) (parts : Array (Nat × Operand)), aOp Try.prog ty ev g n (.build 92 parts) = (fillP [(0, 1), (1, 1)] [.int .i64 0, .int .u64 0] (parts.toList.map fun p => (p.1, ev p.2))).map fun cs => (.agg cs.toArray, .none)) := ⟨ts_reeveref22_Write, ta_reeveref22_Write, tz_reeveref22_Write, tp_reeveref22_Write, tf_reeveref22_Write_At, tg_reeveref22_Write_At, tf_reeveref22_Write_V, tg_reeveref22_Write_V, bs_reeveref22_Write⟩
theorem q_tag_Field : (tsize Try.prog 100 = some 2) ∧ (tagg Try.prog 100 = some true) ∧ (zeroFlat Try.prog 100 = some [.int .i64 0, .int .i64 0]) ∧ (tplaces Try.prog 100 = some [(0, 1), (1, 1)]) ∧ (tfield Try.prog 100 0 = some (3, 0)) ∧ (tfield' Try.prog 100 0 = some (3, 0)) ∧ (tfield Try.prog 100 1 = some (3, 1)) ∧ (tfield' Try.prog 100 1 = some (3, 1)) ∧ (∀ (ty : TypeId) (ev : Operand → Value) (g : AMem) (n : Nat) (parts : Array (Nat × Operand)), aOp Try.prog ty ev g n (.build 100 parts) = (fillP [(0, 1), (1, 1)] [.int .i64 0, .int .i64 0] (parts.toList.map fun p => (p.1, ev p.2))).map fun cs => (.agg cs.toArray, .none)) := ⟨ts_tag_Field, ta_tag_Field, tz_tag_Field, tp_tag_Field, tf_tag_Field_From, tg_tag_Field_From, tf_tag_Field_Len, tg_tag_Field_Len, bs_tag_Field⟩
/-- reeve/reevelaw24.OpdSays -/
abbrev f_reevelaw24_OpdSays : FuncId := 9
def rc_reevelaw24_OpdSays : RCode :=
  (.seq
    (.region [⟨some 4, .none, true, 0, .box 49 (.tmp 0)⟩,
      ⟨some 5, .none, true, 0, .box 57 (.tmp 1)⟩,
      ⟨some 8, .none, true, 4, .assign (.const (.bool false))⟩])
  (.keep [2, 3, 4, 5]
  (.seq
    (.seq
      (.region [⟨some 15, .none, true, 4, .call { callee := .value (.func 26), args := #[], argTypes := #[] }⟩,
        ⟨some 16, .none, true, 4, .unOp .not 4 (.tmp 15)⟩])
    (.keep [2, 3, 4, 5, 16]
    (.cond (.tmp 16)
      (.seq
        (.region [⟨some 8, .none, true, 4, .assign (.const (.bool false))⟩])
      .ret)
      .skip)))
  (.seq
    (.seq
      (.region [⟨some 17, .none, true, 0, .fieldAddr 57 (.tmp 5) 4⟩,
        ⟨some 18, .none, true, 55, .load 55 (.tmp 17)⟩,
        ⟨some 19, .none, true, 3, .call { callee := .builtin .len, args := #[.tmp 18], argTypes := #[55] }⟩,
        ⟨some 20, .none, true, 4, .binOp .gtr 3 (.tmp 19) (.const (.int .i64 650)) 3⟩])
    (.keep [2, 3, 4, 5, 20]
    (.cond (.tmp 20)
      (.seq
        (.region [⟨some 8, .none, true, 4, .assign (.const (.bool true))⟩])
      .ret)
      .skip)))
  (.seq
    (.regionD [⟨some 21, .none, 49, .load 49 (.tmp 4), 0, []⟩,
      ⟨some 22, .none, 57, .load 57 (.tmp 5), 1, []⟩,
      ⟨some 23, .none, 29, .call { callee := .value (.func 30), args := #[.tmp 21, .tmp 22], argTypes := #[49, 57] }, 2, []⟩,
      ⟨some 24, .none, 49, .load 49 (.tmp 4), 3, [2]⟩,
      ⟨some 25, .none, 73, .call { callee := .value (.func 36), args := #[.tmp 24], argTypes := #[49] }, 4, []⟩,
      ⟨some 26, .none, 57, .load 57 (.tmp 5), 5, [2, 4]⟩,
      ⟨some 27, .none, 69, .call { callee := .value (.func 33), args := #[.tmp 26], argTypes := #[57] }, 6, []⟩,
      ⟨some 28, .none, 29, .call { callee := .value (.func 35), args := #[.tmp 25, .tmp 27], argTypes := #[73, 69] }, 7, []⟩,
      ⟨some 9, .none, 29, .assign (.tmp 23), 8, []⟩,
      ⟨some 10, .none, 29, .assign (.tmp 28), 9, []⟩])
  (.keep [2, 3, 4, 5, 9, 10]
  (.seq
    (.seq
      (.region [⟨some 29, .none, true, 29, .move (.tmp 9)⟩,
        ⟨some 30, .none, true, 29, .move (.tmp 10)⟩,
        ⟨some 31, .none, true, 4, .call { callee := .value (.func 37), args := #[.tmp 29, .tmp 30], argTypes := #[29, 29] }⟩,
        ⟨some 32, .none, true, 4, .unOp .not 4 (.tmp 31)⟩,
        ⟨some 33, .none, true, 4, .move (.tmp 32)⟩,
        ⟨some 34, .some 33 false, false, 49, .load 49 (.tmp 4)⟩,
        ⟨some 35, .some 33 false, false, 57, .load 57 (.tmp 5)⟩,
        ⟨some 36, .some 33 false, false, 4, .call { callee := .value (.func 29), args := #[.tmp 34, .tmp 35], argTypes := #[49, 57] }⟩,
        ⟨some 37, .some 33 false, false, 49, .load 49 (.tmp 4)⟩,
        ⟨some 38, .some 33 false, false, 73, .call { callee := .value (.func 36), args := #[.tmp 37], argTypes := #[49] }⟩,
        ⟨some 39, .some 33 false, false, 57, .load 57 (.tmp 5)⟩,
        ⟨some 40, .some 33 false, true, 69, .call { callee := .value (.func 33), args := #[.tmp 39], argTypes := #[57] }⟩,
        ⟨some 41, .some 33 false, true, 4, .call { callee := .value (.func 38), args := #[.tmp 38, .tmp 40], argTypes := #[73, 69] }⟩,
        ⟨some 42, .some 33 false, true, 4, .binOp .neq 4 (.tmp 36) (.tmp 41) 4⟩,
        ⟨some 43, .none, true, 4, .pick (.tmp 33) (.const (.bool true)) (.tmp 42)⟩,
        ⟨some 44, .none, true, 4, .move (.tmp 43)⟩,
        ⟨some 45, .some 44 false, false, 57, .load 57 (.tmp 5)⟩,
        ⟨some 46, .some 44 false, false, 23, .call { callee := .value (.func 34), args := #[.tmp 45], argTypes := #[57] }⟩,
        ⟨some 47, .some 44 false, false, 57, .load 57 (.tmp 5)⟩,
        ⟨some 48, .some 44 false, true, 69, .call { callee := .value (.func 33), args := #[.tmp 47], argTypes := #[57] }⟩,
        ⟨some 49, .some 44 false, true, 23, .call { callee := .value (.func 39), args := #[.tmp 48], argTypes := #[69] }⟩,
        ⟨some 50, .some 44 false, true, 4, .binOp .neq 23 (.tmp 46) (.tmp 49) 23⟩,
        ⟨some 51, .none, true, 4, .pick (.tmp 44) (.const (.bool true)) (.tmp 50)⟩])
    (.keep [2, 3, 4, 9, 51]
    (.cond (.tmp 51)
      (.seq
        (.region [⟨some 8, .none, true, 4, .assign (.const (.bool false))⟩])
      .ret)
      .skip)))
  (.seq
    (.seq
      (.region [⟨some 52, .none, true, 3, .move (.tmp 2)⟩,
        ⟨some 53, .none, true, 4, .binOp .lss 3 (.tmp 52) (.const (.int .i64 0)) 3⟩,
        ⟨some 54, .none, true, 4, .move (.tmp 53)⟩,
        ⟨some 55, .some 54 false, true, 3, .move (.tmp 2)⟩,
        ⟨some 56, .some 54 false, true, 29, .move (.tmp 9)⟩,
        ⟨some 57, .some 54 false, true, 3, .call { callee := .builtin .len, args := #[.tmp 56], argTypes := #[29] }⟩,
        ⟨some 58, .some 54 false, true, 4, .binOp .geq 3 (.tmp 55) (.tmp 57) 3⟩,
        ⟨some 59, .none, true, 4, .pick (.tmp 54) (.const (.bool true)) (.tmp 58)⟩])
    (.keep [2, 3, 4, 9, 59]
    (.cond (.tmp 59)
      (.seq
        (.region [⟨some 8, .none, true, 4, .assign (.const (.bool true))⟩])
      .ret)
      .skip)))
  (.seq
    (.region [⟨some 60, .none, true, 29, .move (.tmp 9)⟩,
      ⟨some 61, .none, true, 3, .move (.tmp 2)⟩,
      ⟨some 62, .none, true, 23, .move (.tmp 3)⟩,
      ⟨some 63, .none, true, 0, .indexAddr 29 (.tmp 60) (.tmp 61)⟩,
      ⟨none, .none, true, 0, .store 23 (.tmp 63) (.tmp 62)⟩])
  (.keep [4, 9]
  (.seq
    (.region [⟨some 65, .none, true, 49, .load 49 (.tmp 4)⟩,
      ⟨some 66, .none, true, 29, .move (.tmp 9)⟩,
      ⟨some 67, .none, true, 63, .call { callee := .value (.func 31), args := #[.tmp 65, .tmp 66], argTypes := #[49, 29] }⟩,
      ⟨some 64, .none, true, 63, .move (.tmp 67)⟩,
      ⟨some 68, .none, true, 57, .extract (.tmp 64) 0⟩,
      ⟨some 69, .none, true, 4, .extract (.tmp 64) 1⟩,
      ⟨some 11, .none, true, 0, .alloc 57⟩,
      ⟨none, .none, true, 0, .store 57 (.tmp 11) (.tmp 68)⟩,
      ⟨some 12, .none, true, 4, .assign (.tmp 69)⟩])
  (.keep [4, 9, 11, 12]
  (.seq
    (.region [⟨some 71, .none, true, 49, .load 49 (.tmp 4)⟩,
      ⟨some 72, .none, true, 73, .call { callee := .value (.func 36), args := #[.tmp 71], argTypes := #[49] }⟩,
      ⟨some 73, .none, true, 29, .move (.tmp 9)⟩,
      ⟨some 74, .none, true, 77, .call { callee := .value (.func 40), args := #[.tmp 72, .tmp 73], argTypes := #[73, 29] }⟩,
      ⟨some 70, .none, true, 77, .move (.tmp 74)⟩,
      ⟨some 75, .none, true, 69, .extract (.tmp 70) 0⟩,
      ⟨some 76, .none, true, 4, .extract (.tmp 70) 1⟩,
      ⟨some 13, .none, true, 0, .alloc 69⟩,
      ⟨none, .none, true, 0, .store 69 (.tmp 13) (.tmp 75)⟩,
      ⟨some 14, .none, true, 4, .assign (.tmp 76)⟩])
  (.keep [11, 12, 13, 14]
  (.seq
    (.regionD [⟨some 77, .none, 4, .move (.tmp 12), 0, []⟩,
      ⟨some 78, .none, 4, .move (.tmp 14), 1, []⟩,
      ⟨some 79, .none, 4, .binOp .eql 4 (.tmp 77) (.tmp 78) 4, 2, []⟩,
      ⟨some 80, .none, 4, .move (.tmp 79), 3, []⟩,
      ⟨some 81, .some 80 true, 57, .load 57 (.tmp 11), 4, []⟩,
      ⟨some 82, .some 80 true, 69, .call { callee := .value (.func 33), args := #[.tmp 81], argTypes := #[57] }, 5, []⟩,
      ⟨some 83, .some 80 true, 69, .load 69 (.tmp 13), 6, [5]⟩,
      ⟨some 84, .some 80 true, 4, .call { callee := .value (.func 32), args := #[.tmp 82, .tmp 83], argTypes := #[69, 69] }, 7, []⟩,
      ⟨some 85, .none, 4, .pick (.tmp 80) (.tmp 84) (.const (.bool false)), 8, []⟩,
      ⟨some 8, .none, 4, .assign (.tmp 85), 9, []⟩])
  .ret)))))))))))))))
theorem t_reevelaw24_OpdSays : FnT Try.prog f_reevelaw24_OpdSays rc_reevelaw24_OpdSays [.tmp 8] 4 := ⟨⟨[5, 13], Try.f9, _, Try.func9, rfl, by kernel_rfl, by kernel_rfl, by kernel_rfl, rfl, by decide⟩, by kernel_rfl⟩
/-- reeve/reevelaw24.OpdBack -/
abbrev f_reevelaw24_OpdBack : FuncId := 10
def rc_reevelaw24_OpdBack : RCode :=
  (.seq
    (.region [⟨some 4, .none, true, 0, .box 49 (.tmp 0)⟩,
      ⟨some 5, .none, true, 0, .box 57 (.tmp 1)⟩,
      ⟨some 8, .none, true, 4, .assign (.const (.bool false))⟩])
  (.keep [2, 3, 4, 5]
  (.seq
    (.seq
      (.region [⟨some 16, .none, true, 4, .call { callee := .value (.func 26), args := #[], argTypes := #[] }⟩,
        ⟨some 17, .none, true, 4, .unOp .not 4 (.tmp 16)⟩])
    (.keep [2, 3, 4, 5, 17]
    (.cond (.tmp 17)
      (.seq
        (.region [⟨some 8, .none, true, 4, .assign (.const (.bool false))⟩])
      .ret)
      .skip)))
  (.seq
    (.seq
      (.region [⟨some 18, .none, true, 0, .fieldAddr 57 (.tmp 5) 4⟩,
        ⟨some 19, .none, true, 55, .load 55 (.tmp 18)⟩,
        ⟨some 20, .none, true, 3, .call { callee := .builtin .len, args := #[.tmp 19], argTypes := #[55] }⟩,
        ⟨some 21, .none, true, 4, .binOp .gtr 3 (.tmp 20) (.const (.int .i64 650)) 3⟩,
        ⟨some 22, .none, true, 4, .move (.tmp 21)⟩,
        ⟨some 23, .some 22 false, true, 49, .load 49 (.tmp 4)⟩,
        ⟨some 24, .some 22 false, true, 57, .load 57 (.tmp 5)⟩,
        ⟨some 25, .some 22 false, true, 4, .call { callee := .value (.func 29), args := #[.tmp 23, .tmp 24], argTypes := #[49, 57] }⟩,
        ⟨some 26, .some 22 false, true, 4, .unOp .not 4 (.tmp 25)⟩,
        ⟨some 27, .none, true, 4, .pick (.tmp 22) (.const (.bool true)) (.tmp 26)⟩])
    (.keep [2, 3, 4, 5, 27]
    (.cond (.tmp 27)
      (.seq
        (.region [⟨some 8, .none, true, 4, .assign (.const (.bool true))⟩])
      .ret)
      .skip)))
  (.seq
    (.region [⟨some 28, .none, true, 49, .load 49 (.tmp 4)⟩,
      ⟨some 29, .none, true, 57, .load 57 (.tmp 5)⟩,
      ⟨some 30, .none, true, 29, .call { callee := .value (.func 30), args := #[.tmp 28, .tmp 29], argTypes := #[49, 57] }⟩,
      ⟨some 9, .none, true, 29, .assign (.tmp 30)⟩])
  (.keep [2, 3, 4, 5, 9]
  (.seq
    (.region [⟨some 32, .none, true, 49, .load 49 (.tmp 4)⟩,
      ⟨some 33, .none, true, 29, .move (.tmp 9)⟩,
      ⟨some 34, .none, true, 63, .call { callee := .value (.func 31), args := #[.tmp 32, .tmp 33], argTypes := #[49, 29] }⟩,
      ⟨some 31, .none, true, 63, .move (.tmp 34)⟩,
      ⟨some 35, .none, true, 57, .extract (.tmp 31) 0⟩,
      ⟨some 36, .none, true, 4, .extract (.tmp 31) 1⟩,
      ⟨some 10, .none, true, 0, .alloc 57⟩,
      ⟨none, .none, true, 0, .store 57 (.tmp 10) (.tmp 35)⟩,
      ⟨some 11, .none, true, 4, .assign (.tmp 36)⟩])
  (.keep [2, 3, 4, 5, 9, 10, 11]
  (.seq
    (.seq
      (.regionD [⟨some 37, .none, 4, .move (.tmp 11), 0, []⟩,
        ⟨some 38, .none, 4, .unOp .not 4 (.tmp 37), 1, []⟩,
        ⟨some 39, .none, 4, .move (.tmp 38), 2, []⟩,
        ⟨some 40, .some 39 false, 57, .load 57 (.tmp 10), 3, []⟩,
        ⟨some 41, .some 39 false, 69, .call { callee := .value (.func 33), args := #[.tmp 40], argTypes := #[57] }, 4, []⟩,
        ⟨some 42, .some 39 false, 57, .load 57 (.tmp 5), 5, [4]⟩,
        ⟨some 43, .some 39 false, 69, .call { callee := .value (.func 33), args := #[.tmp 42], argTypes := #[57] }, 6, []⟩,
        ⟨some 44, .some 39 false, 4, .call { callee := .value (.func 32), args := #[.tmp 41, .tmp 43], argTypes := #[69, 69] }, 7, []⟩,
        ⟨some 45, .some 39 false, 4, .unOp .not 4 (.tmp 44), 8, []⟩,
        ⟨some 46, .none, 4, .pick (.tmp 39) (.const (.bool true)) (.tmp 45), 9, []⟩,
        ⟨some 47, .none, 4, .move (.tmp 46), 10, []⟩,
        ⟨some 48, .some 47 false, 29, .move (.tmp 9), 11, []⟩,
        ⟨some 49, .some 47 false, 3, .call { callee := .builtin .len, args := #[.tmp 48], argTypes := #[29] }, 12, []⟩,
        ⟨some 50, .some 47 false, 4, .binOp .eql 3 (.tmp 49) (.const (.int .i64 0)) 3, 13, []⟩,
        ⟨some 51, .none, 4, .pick (.tmp 47) (.const (.bool true)) (.tmp 50), 14, []⟩,
        ⟨some 52, .none, 4, .move (.tmp 51), 15, []⟩,
        ⟨some 53, .some 52 false, 29, .move (.tmp 9), 16, []⟩,
        ⟨some 54, .some 52 false, 0, .indexAddr 29 (.tmp 53) (.const (.int .i64 0)), 17, []⟩,
        ⟨some 55, .some 52 false, 23, .load 23 (.tmp 54), 18, []⟩,
        ⟨some 56, .some 52 false, 57, .load 57 (.tmp 5), 19, []⟩,
        ⟨some 57, .some 52 false, 23, .call { callee := .value (.func 34), args := #[.tmp 56], argTypes := #[57] }, 20, [18]⟩,
        ⟨some 58, .some 52 false, 4, .binOp .neq 23 (.tmp 55) (.tmp 57) 23, 21, []⟩,
        ⟨some 59, .none, 4, .pick (.tmp 52) (.const (.bool true)) (.tmp 58), 22, []⟩])
    (.keep [2, 3, 4, 9, 59]
    (.cond (.tmp 59)
      (.seq
        (.region [⟨some 8, .none, true, 4, .assign (.const (.bool false))⟩])
      .ret)
      .skip)))
  (.seq
    (.seq
      (.region [⟨some 60, .none, true, 3, .move (.tmp 2)⟩,
        ⟨some 61, .none, true, 4, .binOp .lss 3 (.tmp 60) (.const (.int .i64 0)) 3⟩,
        ⟨some 62, .none, true, 4, .move (.tmp 61)⟩,
        ⟨some 63, .some 62 false, true, 3, .move (.tmp 2)⟩,
        ⟨some 64, .some 62 false, true, 29, .move (.tmp 9)⟩,
        ⟨some 65, .some 62 false, true, 3, .call { callee := .builtin .len, args := #[.tmp 64], argTypes := #[29] }⟩,
        ⟨some 66, .some 62 false, true, 4, .binOp .geq 3 (.tmp 63) (.tmp 65) 3⟩,
        ⟨some 67, .none, true, 4, .pick (.tmp 62) (.const (.bool true)) (.tmp 66)⟩])
    (.keep [2, 3, 4, 9, 67]
    (.cond (.tmp 67)
      (.seq
        (.region [⟨some 8, .none, true, 4, .assign (.const (.bool true))⟩])
      .ret)
      .skip)))
  (.seq
    (.region [⟨some 68, .none, true, 29, .move (.tmp 9)⟩,
      ⟨some 69, .none, true, 3, .move (.tmp 2)⟩,
      ⟨some 70, .none, true, 23, .move (.tmp 3)⟩,
      ⟨some 71, .none, true, 0, .indexAddr 29 (.tmp 68) (.tmp 69)⟩,
      ⟨none, .none, true, 0, .store 23 (.tmp 71) (.tmp 70)⟩])
  (.keep [4, 9]
  (.seq
    (.region [⟨some 73, .none, true, 49, .load 49 (.tmp 4)⟩,
      ⟨some 74, .none, true, 29, .move (.tmp 9)⟩,
      ⟨some 75, .none, true, 63, .call { callee := .value (.func 31), args := #[.tmp 73, .tmp 74], argTypes := #[49, 29] }⟩,
      ⟨some 72, .none, true, 63, .move (.tmp 75)⟩,
      ⟨some 76, .none, true, 57, .extract (.tmp 72) 0⟩,
      ⟨some 77, .none, true, 4, .extract (.tmp 72) 1⟩,
      ⟨some 12, .none, true, 0, .alloc 57⟩,
      ⟨none, .none, true, 0, .store 57 (.tmp 12) (.tmp 76)⟩,
      ⟨some 13, .none, true, 4, .assign (.tmp 77)⟩])
  (.keep [4, 12, 13]
  (.seq
    (.regionD [⟨some 79, .none, 49, .load 49 (.tmp 4), 0, []⟩,
      ⟨some 80, .none, 49, .load 49 (.tmp 4), 1, []⟩,
      ⟨some 81, .none, 57, .load 57 (.tmp 12), 2, []⟩,
      ⟨some 82, .none, 29, .call { callee := .value (.func 30), args := #[.tmp 80, .tmp 81], argTypes := #[49, 57] }, 3, [0]⟩,
      ⟨some 83, .none, 63, .call { callee := .value (.func 31), args := #[.tmp 79, .tmp 82], argTypes := #[49, 29] }, 4, []⟩,
      ⟨some 78, .none, 63, .move (.tmp 83), 5, []⟩,
      ⟨some 84, .none, 57, .extract (.tmp 78) 0, 6, []⟩,
      ⟨some 85, .none, 4, .extract (.tmp 78) 1, 7, []⟩,
      ⟨some 14, .none, 0, .alloc 57, 8, [0, 1, 2, 3, 4]⟩,
      ⟨none, .none, 0, .store 57 (.tmp 14) (.tmp 84), 9, []⟩,
      ⟨some 15, .none, 4, .assign (.tmp 85), 10, []⟩])
  (.keep [4, 12, 13, 14, 15]
  (.seq
    (.regionD [⟨some 86, .none, 4, .move (.tmp 13), 0, []⟩,
      ⟨some 87, .none, 4, .unOp .not 4 (.tmp 86), 1, []⟩,
      ⟨some 88, .none, 4, .move (.tmp 87), 2, []⟩,
      ⟨some 89, .some 88 false, 49, .load 49 (.tmp 4), 3, []⟩,
      ⟨some 90, .some 88 false, 57, .load 57 (.tmp 12), 4, []⟩,
      ⟨some 91, .some 88 false, 4, .call { callee := .value (.func 29), args := #[.tmp 89, .tmp 90], argTypes := #[49, 57] }, 5, []⟩,
      ⟨some 92, .some 88 false, 4, .move (.tmp 91), 6, []⟩,
      ⟨some 93, .some 92 true, 4, .move (.tmp 15), 7, []⟩,
      ⟨some 94, .some 88 false, 4, .pick (.tmp 92) (.tmp 93) (.const (.bool false)), 8, []⟩,
      ⟨some 95, .some 88 false, 4, .move (.tmp 94), 9, []⟩,
      ⟨some 96, .some 95 true, 57, .load 57 (.tmp 14), 10, []⟩,
      ⟨some 97, .some 95 true, 69, .call { callee := .value (.func 33), args := #[.tmp 96], argTypes := #[57] }, 11, []⟩,
      ⟨some 98, .some 95 true, 57, .load 57 (.tmp 12), 12, [11]⟩,
      ⟨some 99, .some 95 true, 69, .call { callee := .value (.func 33), args := #[.tmp 98], argTypes := #[57] }, 13, []⟩,
      ⟨some 100, .some 95 true, 4, .call { callee := .value (.func 32), args := #[.tmp 97, .tmp 99], argTypes := #[69, 69] }, 14, []⟩,
      ⟨some 101, .some 88 false, 4, .pick (.tmp 95) (.tmp 100) (.const (.bool false)), 15, []⟩,
      ⟨some 102, .none, 4, .pick (.tmp 88) (.const (.bool true)) (.tmp 101), 16, []⟩,
      ⟨some 8, .none, 4, .assign (.tmp 102), 17, []⟩])
  .ret)))))))))))))))))
theorem t_reevelaw24_OpdBack : FnT Try.prog f_reevelaw24_OpdBack rc_reevelaw24_OpdBack [.tmp 8] 4 := ⟨⟨[7, 13, 14], Try.f10, _, Try.func10, rfl, by kernel_rfl, by kernel_rfl, by kernel_rfl, rfl, by decide⟩, by kernel_rfl⟩
/-- reeve/reevelaw24.OpdFirst -/
abbrev f_reevelaw24_OpdFirst : FuncId := 11
def rc_reevelaw24_OpdFirst : RCode :=
  (.seq
    (.region [⟨some 2, .none, true, 0, .box 49 (.tmp 0)⟩,
      ⟨some 3, .none, true, 0, .box 57 (.tmp 1)⟩,
      ⟨some 4, .none, true, 4, .assign (.const (.bool false))⟩])
  (.keep [2, 3]
  (.seq
    (.seq
      (.region [⟨some 6, .none, true, 4, .call { callee := .value (.func 26), args := #[], argTypes := #[] }⟩,
        ⟨some 7, .none, true, 4, .unOp .not 4 (.tmp 6)⟩])
    (.keep [2, 3, 7]
    (.cond (.tmp 7)
      (.seq
        (.region [⟨some 4, .none, true, 4, .assign (.const (.bool false))⟩])
      .ret)
      .skip)))
  (.seq
    (.seq
      (.region [⟨some 8, .none, true, 0, .fieldAddr 57 (.tmp 3) 4⟩,
        ⟨some 9, .none, true, 55, .load 55 (.tmp 8)⟩,
        ⟨some 10, .none, true, 3, .call { callee := .builtin .len, args := #[.tmp 9], argTypes := #[55] }⟩,
        ⟨some 11, .none, true, 4, .binOp .gtr 3 (.tmp 10) (.const (.int .i64 600)) 3⟩,
        ⟨some 12, .none, true, 4, .move (.tmp 11)⟩,
        ⟨some 13, .some 12 false, true, 49, .load 49 (.tmp 2)⟩,
        ⟨some 14, .some 12 false, true, 57, .load 57 (.tmp 3)⟩,
        ⟨some 15, .some 12 false, true, 4, .call { callee := .value (.func 29), args := #[.tmp 13, .tmp 14], argTypes := #[49, 57] }⟩,
        ⟨some 16, .some 12 false, true, 4, .unOp .not 4 (.tmp 15)⟩,
        ⟨some 17, .none, true, 4, .pick (.tmp 12) (.const (.bool true)) (.tmp 16)⟩])
    (.keep [3, 17]
    (.cond (.tmp 17)
      (.seq
        (.region [⟨some 4, .none, true, 4, .assign (.const (.bool true))⟩])
      .ret)
      .skip)))
  (.seq
    (.region [⟨some 18, .none, true, 57, .load 57 (.tmp 3)⟩,
      ⟨some 19, .none, true, 23, .call { callee := .value (.func 34), args := #[.tmp 18], argTypes := #[57] }⟩,
      ⟨some 5, .none, true, 23, .assign (.tmp 19)⟩])
  (.keep [3, 5]
  (.seq
    (.region [⟨some 20, .none, true, 23, .move (.tmp 5)⟩,
      ⟨some 21, .none, true, 23, .binOp .and 23 (.tmp 20) (.const (.int .u64 255)) 23⟩,
      ⟨some 22, .none, true, 3, .convert 23 3 (.tmp 21)⟩,
      ⟨some 23, .none, true, 0, .fieldAddr 57 (.tmp 3) 0⟩,
      ⟨some 24, .none, true, 3, .load 3 (.tmp 23)⟩,
      ⟨some 25, .none, true, 4, .binOp .eql 3 (.tmp 22) (.tmp 24) 3⟩,
      ⟨some 26, .none, true, 4, .move (.tmp 25)⟩,
      ⟨some 27, .some 26 true, true, 23, .move (.tmp 5)⟩,
      ⟨some 28, .some 26 true, true, 23, .binOp .shr 23 (.tmp 27) (.const (.int .u64 8)) 80⟩,
      ⟨some 29, .some 26 true, true, 23, .binOp .and 23 (.tmp 28) (.const (.int .u64 255)) 23⟩,
      ⟨some 30, .some 26 true, true, 3, .convert 23 3 (.tmp 29)⟩,
      ⟨some 31, .some 26 true, true, 0, .fieldAddr 57 (.tmp 3) 3⟩,
      ⟨some 32, .some 26 true, true, 0, .fieldAddr 54 (.tmp 31) 0⟩,
      ⟨some 33, .some 26 true, true, 52, .load 52 (.tmp 32)⟩,
      ⟨some 34, .some 26 true, true, 4, .binOp .eql 3 (.tmp 30) (.tmp 33) 3⟩,
      ⟨some 35, .none, true, 4, .pick (.tmp 26) (.tmp 34) (.const (.bool false))⟩,
      ⟨some 36, .none, true, 4, .move (.tmp 35)⟩,
      ⟨some 37, .some 36 true, true, 23, .move (.tmp 5)⟩,
      ⟨some 38, .some 36 true, true, 23, .binOp .shr 23 (.tmp 37) (.const (.int .u64 16)) 80⟩,
      ⟨some 39, .some 36 true, true, 23, .binOp .and 23 (.tmp 38) (.const (.int .u64 65535)) 23⟩,
      ⟨some 40, .some 36 true, true, 3, .convert 23 3 (.tmp 39)⟩,
      ⟨some 41, .some 36 true, true, 0, .fieldAddr 57 (.tmp 3) 4⟩,
      ⟨some 42, .some 36 true, true, 55, .load 55 (.tmp 41)⟩,
      ⟨some 43, .some 36 true, true, 3, .call { callee := .builtin .len, args := #[.tmp 42], argTypes := #[55] }⟩,
      ⟨some 44, .some 36 true, true, 4, .binOp .eql 3 (.tmp 40) (.tmp 43) 3⟩,
      ⟨some 45, .none, true, 4, .pick (.tmp 36) (.tmp 44) (.const (.bool false))⟩,
      ⟨some 46, .none, true, 4, .move (.tmp 45)⟩,
      ⟨some 47, .some 46 true, true, 23, .move (.tmp 5)⟩,
      ⟨some 48, .some 46 true, true, 23, .binOp .shr 23 (.tmp 47) (.const (.int .u64 32)) 80⟩,
      ⟨some 49, .some 46 true, true, 0, .fieldAddr 57 (.tmp 3) 1⟩,
      ⟨some 50, .some 46 true, true, 23, .load 23 (.tmp 49)⟩,
      ⟨some 51, .some 46 true, true, 4, .binOp .eql 23 (.tmp 48) (.tmp 50) 23⟩,
      ⟨some 52, .none, true, 4, .pick (.tmp 46) (.tmp 51) (.const (.bool false))⟩,
      ⟨some 4, .none, true, 4, .assign (.tmp 52)⟩])
  .ret)))))))
theorem t_reevelaw24_OpdFirst : FnT Try.prog f_reevelaw24_OpdFirst rc_reevelaw24_OpdFirst [.tmp 4] 2 := ⟨⟨[], Try.f11, _, Try.func11, rfl, by kernel_rfl, by kernel_rfl, by kernel_rfl, rfl, by decide⟩, by kernel_rfl⟩
/-- reeve/reevelaw24.OpdTail -/
abbrev f_reevelaw24_OpdTail : FuncId := 12
def rc_reevelaw24_OpdTaill0 : RCode :=
  (.seq
    (.seq
      (.region [⟨some 32, .none, true, 3, .move (.tmp 8)⟩,
        ⟨some 33, .none, true, 29, .move (.tmp 2)⟩,
        ⟨some 34, .none, true, 3, .call { callee := .builtin .len, args := #[.tmp 33], argTypes := #[29] }⟩,
        ⟨some 35, .none, true, 4, .binOp .lss 3 (.tmp 32) (.tmp 34) 3⟩])
    (.keep [2, 3, 4, 7, 8, 35]
    (.cond (.tmp 35)
      .skip
      (.exit 0))))
  (.seq
    (.block 1
      (.seq
        (.region [⟨some 38, .none, true, 0, .fieldAddr 57 (.tmp 4) 4⟩,
          ⟨some 39, .none, true, 55, .load 55 (.tmp 38)⟩,
          ⟨some 40, .none, true, 3, .call { callee := .builtin .len, args := #[.tmp 39], argTypes := #[55] }⟩,
          ⟨some 41, .none, true, 3, .binOp .mul 3 (.const (.int .i64 2)) (.tmp 40) 3⟩,
          ⟨some 42, .none, true, 3, .binOp .add 3 (.const (.int .i64 8)) (.tmp 41) 3⟩,
          ⟨some 43, .none, true, 3, .move (.tmp 8)⟩,
          ⟨some 44, .none, true, 3, .binOp .add 3 (.tmp 42) (.tmp 43) 3⟩,
          ⟨some 9, .none, true, 3, .assign (.tmp 44)⟩])
      (.keep [2, 3, 4, 7, 8, 9]
      (.seq
        (.region [⟨some 45, .none, true, 3, .move (.tmp 9)⟩,
          ⟨some 46, .none, true, 29, .move (.tmp 7)⟩,
          ⟨some 47, .none, true, 3, .call { callee := .builtin .len, args := #[.tmp 46], argTypes := #[29] }⟩,
          ⟨some 48, .none, true, 4, .binOp .lss 3 (.tmp 45) (.tmp 47) 3⟩])
      (.keep [2, 3, 4, 7, 8, 9, 48]
      (.cond (.tmp 48)
        (.region [⟨some 49, .none, true, 29, .move (.tmp 7)⟩,
          ⟨some 50, .none, true, 3, .move (.tmp 9)⟩,
          ⟨some 51, .none, true, 29, .move (.tmp 2)⟩,
          ⟨some 52, .none, true, 3, .move (.tmp 8)⟩,
          ⟨some 53, .none, true, 0, .indexAddr 29 (.tmp 51) (.tmp 52)⟩,
          ⟨some 54, .none, true, 23, .load 23 (.tmp 53)⟩,
          ⟨some 55, .none, true, 0, .indexAddr 29 (.tmp 49) (.tmp 50)⟩,
          ⟨none, .none, true, 0, .store 23 (.tmp 55) (.tmp 54)⟩])
        .skip))))))
  (.keep [2, 3, 4, 7, 8]
  (.region [⟨some 36, .none, true, 3, .move (.tmp 8)⟩,
    ⟨some 37, .none, true, 3, .binOp .add 3 (.tmp 36) (.const (.int .i64 1)) 3⟩,
    ⟨some 8, .none, true, 3, .assign (.tmp 37)⟩]))))
def rc_reevelaw24_OpdTail : RCode :=
  (.seq
    (.region [⟨some 3, .none, true, 0, .box 49 (.tmp 0)⟩,
      ⟨some 4, .none, true, 0, .box 57 (.tmp 1)⟩,
      ⟨some 6, .none, true, 4, .assign (.const (.bool false))⟩])
  (.keep [2, 3, 4]
  (.seq
    (.seq
      (.region [⟨some 12, .none, true, 4, .call { callee := .value (.func 26), args := #[], argTypes := #[] }⟩,
        ⟨some 13, .none, true, 4, .unOp .not 4 (.tmp 12)⟩])
    (.keep [2, 3, 4, 13]
    (.cond (.tmp 13)
      (.seq
        (.region [⟨some 6, .none, true, 4, .assign (.const (.bool false))⟩])
      .ret)
      .skip)))
  (.seq
    (.seq
      (.region [⟨some 14, .none, true, 0, .fieldAddr 57 (.tmp 4) 4⟩,
        ⟨some 15, .none, true, 55, .load 55 (.tmp 14)⟩,
        ⟨some 16, .none, true, 3, .call { callee := .builtin .len, args := #[.tmp 15], argTypes := #[55] }⟩,
        ⟨some 17, .none, true, 4, .binOp .gtr 3 (.tmp 16) (.const (.int .i64 600)) 3⟩,
        ⟨some 18, .none, true, 4, .move (.tmp 17)⟩,
        ⟨some 19, .some 18 false, true, 29, .move (.tmp 2)⟩,
        ⟨some 20, .some 18 false, true, 3, .call { callee := .builtin .len, args := #[.tmp 19], argTypes := #[29] }⟩,
        ⟨some 21, .some 18 false, true, 4, .binOp .gtr 3 (.tmp 20) (.const (.int .i64 50)) 3⟩,
        ⟨some 22, .none, true, 4, .pick (.tmp 18) (.const (.bool true)) (.tmp 21)⟩,
        ⟨some 23, .none, true, 4, .move (.tmp 22)⟩,
        ⟨some 24, .some 23 false, true, 49, .load 49 (.tmp 3)⟩,
        ⟨some 25, .some 23 false, true, 57, .load 57 (.tmp 4)⟩,
        ⟨some 26, .some 23 false, true, 4, .call { callee := .value (.func 29), args := #[.tmp 24, .tmp 25], argTypes := #[49, 57] }⟩,
        ⟨some 27, .some 23 false, true, 4, .unOp .not 4 (.tmp 26)⟩,
        ⟨some 28, .none, true, 4, .pick (.tmp 23) (.const (.bool true)) (.tmp 27)⟩])
    (.keep [2, 3, 4, 28]
    (.cond (.tmp 28)
      (.seq
        (.region [⟨some 6, .none, true, 4, .assign (.const (.bool true))⟩])
      .ret)
      .skip)))
  (.seq
    (.region [⟨some 29, .none, true, 49, .load 49 (.tmp 3)⟩,
      ⟨some 30, .none, true, 57, .load 57 (.tmp 4)⟩,
      ⟨some 31, .none, true, 29, .call { callee := .value (.func 30), args := #[.tmp 29, .tmp 30], argTypes := #[49, 57] }⟩,
      ⟨some 7, .none, true, 29, .assign (.tmp 31)⟩])
  (.keep [2, 3, 4, 7]
  (.seq
    (.seq
      (.region [⟨some 8, .none, true, 3, .assign (.const (.int .i64 0))⟩])
    (.keep [2, 3, 4, 7, 8]
    (.block 0
      (.loop [2, 3, 4, 7, 8] rc_reevelaw24_OpdTaill0))))
  (.seq
    (.region [⟨some 57, .none, true, 49, .load 49 (.tmp 3)⟩,
      ⟨some 58, .none, true, 29, .move (.tmp 7)⟩,
      ⟨some 59, .none, true, 63, .call { callee := .value (.func 31), args := #[.tmp 57, .tmp 58], argTypes := #[49, 29] }⟩,
      ⟨some 56, .none, true, 63, .move (.tmp 59)⟩,
      ⟨some 60, .none, true, 57, .extract (.tmp 56) 0⟩,
      ⟨some 61, .none, true, 4, .extract (.tmp 56) 1⟩,
      ⟨some 10, .none, true, 0, .alloc 57⟩,
      ⟨none, .none, true, 0, .store 57 (.tmp 10) (.tmp 60)⟩,
      ⟨some 11, .none, true, 4, .assign (.tmp 61)⟩])
  (.keep [4, 10, 11]
  (.seq
    (.regionD [⟨some 62, .none, 4, .move (.tmp 11), 0, []⟩,
      ⟨some 63, .none, 4, .move (.tmp 62), 1, []⟩,
      ⟨some 64, .some 63 true, 57, .load 57 (.tmp 10), 2, []⟩,
      ⟨some 65, .some 63 true, 69, .call { callee := .value (.func 33), args := #[.tmp 64], argTypes := #[57] }, 3, []⟩,
      ⟨some 66, .some 63 true, 57, .load 57 (.tmp 4), 4, [3]⟩,
      ⟨some 67, .some 63 true, 69, .call { callee := .value (.func 33), args := #[.tmp 66], argTypes := #[57] }, 5, []⟩,
      ⟨some 68, .some 63 true, 4, .call { callee := .value (.func 32), args := #[.tmp 65, .tmp 67], argTypes := #[69, 69] }, 6, []⟩,
      ⟨some 69, .none, 4, .pick (.tmp 63) (.tmp 68) (.const (.bool false)), 7, []⟩,
      ⟨some 6, .none, 4, .assign (.tmp 69), 8, []⟩])
  .ret))))))))))
theorem t_reevelaw24_OpdTail : FnT Try.prog f_reevelaw24_OpdTail rc_reevelaw24_OpdTail [.tmp 6] 3 := ⟨⟨[13], Try.f12, _, Try.func12, rfl, by kernel_rfl, by kernel_rfl, by kernel_rfl, rfl, by decide⟩, by kernel_rfl⟩
/-- reeve/reevelaw24.awake -/
abbrev f_reevelaw24_awake : FuncId := 26
def rc_reevelaw24_awake : RCode :=
  (.seq
    (.region [⟨some 0, .none, true, 4, .assign (.const (.bool false))⟩])
  (.keep []
  (.seq
    (.region [⟨some 4, .none, true, 49, .call { callee := .value (.func 27), args := #[], argTypes := #[] }⟩,
      ⟨some 5, .none, true, 57, .call { callee := .value (.func 28), args := #[], argTypes := #[] }⟩,
      ⟨some 6, .none, true, 29, .call { callee := .value (.func 30), args := #[.tmp 4, .tmp 5], argTypes := #[49, 57] }⟩,
      ⟨some 1, .none, true, 29, .assign (.tmp 6)⟩])
  (.keep [1]
  (.seq
    (.region [⟨some 8, .none, true, 49, .call { callee := .value (.func 27), args := #[], argTypes := #[] }⟩,
      ⟨some 9, .none, true, 29, .move (.tmp 1)⟩,
      ⟨some 10, .none, true, 63, .call { callee := .value (.func 31), args := #[.tmp 8, .tmp 9], argTypes := #[49, 29] }⟩,
      ⟨some 7, .none, true, 63, .move (.tmp 10)⟩,
      ⟨some 11, .none, true, 57, .extract (.tmp 7) 0⟩,
      ⟨some 12, .none, true, 4, .extract (.tmp 7) 1⟩,
      ⟨some 2, .none, true, 0, .alloc 57⟩,
      ⟨none, .none, true, 0, .store 57 (.tmp 2) (.tmp 11)⟩,
      ⟨some 3, .none, true, 4, .assign (.tmp 12)⟩])
  (.keep [1, 2, 3]
  (.seq
    (.region [⟨some 13, .none, true, 29, .move (.tmp 1)⟩,
      ⟨some 14, .none, true, 3, .call { callee := .builtin .len, args := #[.tmp 13], argTypes := #[29] }⟩,
      ⟨some 15, .none, true, 4, .binOp .eql 3 (.tmp 14) (.const (.int .i64 1208)) 3⟩,
      ⟨some 16, .none, true, 4, .move (.tmp 15)⟩,
      ⟨some 17, .some 16 true, true, 29, .move (.tmp 1)⟩,
      ⟨some 18, .some 16 true, true, 0, .indexAddr 29 (.tmp 17) (.const (.int .i64 0))⟩,
      ⟨some 19, .some 16 true, true, 23, .load 23 (.tmp 18)⟩,
      ⟨some 20, .some 16 true, true, 4, .binOp .eql 23 (.tmp 19) (.const (.int .u64 30064902914)) 23⟩,
      ⟨some 21, .none, true, 4, .pick (.tmp 16) (.tmp 20) (.const (.bool false))⟩,
      ⟨some 22, .none, true, 4, .move (.tmp 21)⟩,
      ⟨some 23, .some 22 true, true, 4, .move (.tmp 3)⟩,
      ⟨some 24, .none, true, 4, .pick (.tmp 22) (.tmp 23) (.const (.bool false))⟩,
      ⟨some 25, .none, true, 4, .move (.tmp 24)⟩,
      ⟨some 26, .some 25 true, true, 57, .load 57 (.tmp 2)⟩,
      ⟨some 27, .some 25 true, true, 69, .call { callee := .value (.func 33), args := #[.tmp 26], argTypes := #[57] }⟩,
      ⟨some 28, .some 25 true, true, 57, .call { callee := .value (.func 28), args := #[], argTypes := #[] }⟩,
      ⟨some 29, .some 25 true, true, 69, .call { callee := .value (.func 33), args := #[.tmp 28], argTypes := #[57] }⟩,
      ⟨some 30, .some 25 true, true, 4, .call { callee := .value (.func 32), args := #[.tmp 27, .tmp 29], argTypes := #[69, 69] }⟩,
      ⟨some 31, .none, true, 4, .pick (.tmp 25) (.tmp 30) (.const (.bool false))⟩,
      ⟨some 32, .none, true, 4, .move (.tmp 31)⟩,
      ⟨some 33, .some 32 true, true, 49, .call { callee := .value (.func 27), args := #[], argTypes := #[] }⟩,
      ⟨some 34, .some 32 true, true, 57, .call { callee := .value (.func 28), args := #[], argTypes := #[] }⟩,
      ⟨some 35, .some 32 true, true, 4, .call { callee := .value (.func 29), args := #[.tmp 33, .tmp 34], argTypes := #[49, 57] }⟩,
      ⟨some 36, .none, true, 4, .pick (.tmp 32) (.tmp 35) (.const (.bool false))⟩,
      ⟨some 0, .none, true, 4, .assign (.tmp 36)⟩])
  .ret)))))))
theorem t_reevelaw24_awake : FnT Try.prog f_reevelaw24_awake rc_reevelaw24_awake [.tmp 0] 0 := ⟨⟨[], Try.f26, _, Try.func26, rfl, by kernel_rfl, by kernel_rfl, by kernel_rfl, rfl, by decide⟩, by kernel_rfl⟩
/-- reeve/geo.Plain -/
abbrev f_geo_Plain : FuncId := 27
def rc_geo_Plain : RCode :=
  (.seq
    (.region [⟨some 0, .none, true, 0, .alloc 49⟩])
  (.keep [0]
  (.seq
    (.region [⟨some 1, .none, true, 49, .build 49 #[(0, .const (.int .i64 2)), (1, .const (.int .i64 32)), (2, .const (.int .i64 16))]⟩,
      ⟨none, .none, true, 0, .store 49 (.tmp 0) (.tmp 1)⟩])
  .ret)))
theorem t_geo_Plain : FnT Try.prog f_geo_Plain rc_geo_Plain [.cell 0 49] 0 := ⟨⟨[], Try.f27, _, Try.func27, rfl, by kernel_rfl, by kernel_rfl, by kernel_rfl, rfl, by decide⟩, by kernel_rfl⟩
/-- reeve/reevelaw24.some -/
abbrev f_reevelaw24_some : FuncId := 28
def rc_reevelaw24_some : RCode :=
  (.seq
    (.region [⟨some 0, .none, true, 0, .alloc 57⟩])
  (.keep [0]
  (.seq
    (.region [⟨some 1, .none, true, 24, .build 24 #[(0, .const (.int .u64 1)), (1, .const (.int .u64 2)), (2, .const (.int .u64 3)), (3, .const (.int .u64 4))]⟩,
      ⟨some 2, .none, true, 54, .build 54 #[(0, .const (.int .i64 3)), (1, .const (.int .u64 9)), (2, .const (.int .i64 5))]⟩,
      ⟨some 3, .none, true, 60, .build 60 #[(0, .const (.int .i64 2432)), (1, .const (.int .u64 1))]⟩,
      ⟨some 4, .none, true, 60, .build 60 #[(0, .const (.int .i64 2500)), (1, .const (.int .u64 2))]⟩,
      ⟨some 5, .none, true, 55, .buildSlice 55 2 #[(0, .tmp 3), (1, .tmp 4)]⟩,
      ⟨some 6, .none, true, 57, .build 57 #[(0, .const (.int .i64 2)), (1, .const (.int .u64 7)), (2, .tmp 1), (3, .tmp 2), (4, .tmp 5)]⟩,
      ⟨none, .none, true, 0, .store 57 (.tmp 0) (.tmp 6)⟩])
  .ret)))
theorem t_reevelaw24_some : FnT Try.prog f_reevelaw24_some rc_reevelaw24_some [.cell 0 57] 0 := ⟨⟨[], Try.f28, _, Try.func28, rfl, by kernel_rfl, by kernel_rfl, by kernel_rfl, rfl, by decide⟩, by kernel_rfl⟩
/-- reeve/opd.Good -/
abbrev f_opd_Good : FuncId := 29
def rc_opd_Good : RCode :=
  (.seq
    (.region [⟨some 2, .none, true, 0, .box 49 (.tmp 0)⟩,
      ⟨some 3, .none, true, 0, .box 57 (.tmp 1)⟩,
      ⟨some 4, .none, true, 4, .assign (.const (.bool false))⟩])
  (.keep [2, 3]
  (.seq
    (.region [⟨some 7, .none, true, 0, .fieldAddr 57 (.tmp 3) 3⟩,
      ⟨some 8, .none, true, 54, .load 54 (.tmp 7)⟩,
      ⟨some 9, .none, true, 54, .build 54 #[]⟩,
      ⟨some 10, .none, true, 4, .binOp .eql 54 (.tmp 8) (.tmp 9) 54⟩,
      ⟨some 11, .none, true, 4, .move (.tmp 10)⟩,
      ⟨some 12, .some 11 true, true, 0, .fieldAddr 57 (.tmp 3) 4⟩,
      ⟨some 13, .some 11 true, true, 55, .load 55 (.tmp 12)⟩,
      ⟨some 14, .some 11 true, true, 3, .call { callee := .builtin .len, args := #[.tmp 13], argTypes := #[55] }⟩,
      ⟨some 15, .some 11 true, true, 4, .binOp .eql 3 (.tmp 14) (.const (.int .i64 0)) 3⟩,
      ⟨some 16, .none, true, 4, .pick (.tmp 11) (.tmp 15) (.const (.bool false))⟩,
      ⟨some 5, .none, true, 4, .assign (.tmp 16)⟩])
  (.keep [2, 3, 5]
  (.seq
    (.region [⟨some 17, .none, true, 0, .fieldAddr 57 (.tmp 3) 3⟩,
      ⟨some 18, .none, true, 54, .load 54 (.tmp 17)⟩,
      ⟨some 6, .none, true, 0, .alloc 54⟩,
      ⟨none, .none, true, 0, .store 54 (.tmp 6) (.tmp 18)⟩])
  (.keep [2, 3, 5, 6]
  (.seq
    (.seq
      (.region [⟨some 19, .none, true, 49, .load 49 (.tmp 2)⟩,
        ⟨some 20, .none, true, 0, .fieldAddr 57 (.tmp 3) 4⟩,
        ⟨some 21, .none, true, 55, .load 55 (.tmp 20)⟩,
        ⟨some 22, .none, true, 4, .call { callee := .value (.func 50), args := #[.tmp 19, .tmp 21], argTypes := #[49, 55] }⟩,
        ⟨some 23, .none, true, 4, .unOp .not 4 (.tmp 22)⟩,
        ⟨some 24, .none, true, 4, .move (.tmp 23)⟩,
        ⟨some 25, .some 24 false, true, 0, .fieldAddr 54 (.tmp 6) 0⟩,
        ⟨some 26, .some 24 false, true, 52, .load 52 (.tmp 25)⟩,
        ⟨some 27, .some 24 false, true, 4, .binOp .lss 52 (.tmp 26) (.const (.int .i64 0)) 52⟩,
        ⟨some 28, .none, true, 4, .pick (.tmp 24) (.const (.bool true)) (.tmp 27)⟩,
        ⟨some 29, .none, true, 4, .move (.tmp 28)⟩,
        ⟨some 30, .some 29 false, true, 0, .fieldAddr 54 (.tmp 6) 0⟩,
        ⟨some 31, .some 29 false, true, 52, .load 52 (.tmp 30)⟩,
        ⟨some 32, .some 29 false, true, 4, .binOp .gtr 52 (.tmp 31) (.const (.int .i64 255)) 52⟩,
        ⟨some 33, .none, true, 4, .pick (.tmp 29) (.const (.bool true)) (.tmp 32)⟩,
        ⟨some 34, .none, true, 4, .move (.tmp 33)⟩,
        ⟨some 35, .some 34 false, true, 0, .fieldAddr 54 (.tmp 6) 2⟩,
        ⟨some 36, .some 34 false, true, 3, .load 3 (.tmp 35)⟩,
        ⟨some 37, .some 34 false, true, 4, .binOp .lss 3 (.tmp 36) (.const (.int .i64 0)) 3⟩,
        ⟨some 38, .none, true, 4, .pick (.tmp 34) (.const (.bool true)) (.tmp 37)⟩,
        ⟨some 39, .none, true, 4, .move (.tmp 38)⟩,
        ⟨some 40, .some 39 false, true, 0, .fieldAddr 54 (.tmp 6) 2⟩,
        ⟨some 41, .some 39 false, true, 3, .load 3 (.tmp 40)⟩,
        ⟨some 42, .some 39 false, true, 4, .binOp .gtr 3 (.tmp 41) (.const (.int .i64 2147483647)) 3⟩,
        ⟨some 43, .none, true, 4, .pick (.tmp 39) (.const (.bool true)) (.tmp 42)⟩])
    (.keep [3, 5, 43]
    (.cond (.tmp 43)
      (.seq
        (.region [⟨some 4, .none, true, 4, .assign (.const (.bool false))⟩])
      .ret)
      .skip)))
  (.seq
    (.seq
      (.region [⟨some 44, .none, true, 0, .fieldAddr 57 (.tmp 3) 0⟩,
        ⟨some 45, .none, true, 3, .load 3 (.tmp 44)⟩])
    (.keep [3, 5, 45]
    (.block 0
      (.seq
        (.region [⟨some 47, .none, true, 4, .binOp .eql 3 (.tmp 45) (.const (.int .i64 0)) 3⟩,
          ⟨some 46, .none, true, 4, .assign (.tmp 47)⟩])
      (.keep [3, 5, 45, 46]
      (.cond (.tmp 46)
        (.seq
          (.region [⟨some 48, .none, true, 4, .move (.tmp 5)⟩,
            ⟨some 49, .none, true, 4, .move (.tmp 48)⟩,
            ⟨some 50, .some 49 true, true, 0, .fieldAddr 57 (.tmp 3) 1⟩,
            ⟨some 51, .some 49 true, true, 23, .load 23 (.tmp 50)⟩,
            ⟨some 52, .some 49 true, true, 4, .binOp .eql 23 (.tmp 51) (.const (.int .u64 0)) 23⟩,
            ⟨some 53, .none, true, 4, .pick (.tmp 49) (.tmp 52) (.const (.bool false))⟩,
            ⟨some 54, .none, true, 4, .move (.tmp 53)⟩,
            ⟨some 55, .some 54 true, true, 0, .fieldAddr 57 (.tmp 3) 2⟩,
            ⟨some 56, .some 54 true, true, 24, .load 24 (.tmp 55)⟩,
            ⟨some 57, .some 54 true, true, 24, .build 24 #[]⟩,
            ⟨some 58, .some 54 true, true, 4, .binOp .eql 24 (.tmp 56) (.tmp 57) 24⟩,
            ⟨some 59, .none, true, 4, .pick (.tmp 54) (.tmp 58) (.const (.bool false))⟩,
            ⟨some 4, .none, true, 4, .assign (.tmp 59)⟩])
        .ret)
        (.seq
          (.seq
            (.region [⟨some 61, .none, true, 4, .binOp .eql 3 (.tmp 45) (.const (.int .i64 1)) 3⟩,
              ⟨some 60, .none, true, 4, .assign (.tmp 61)⟩])
          (.keep [3, 5, 45, 60]
          (.cond (.tmp 60)
            .skip
            (.region [⟨some 62, .none, true, 4, .binOp .eql 3 (.tmp 45) (.const (.int .i64 4)) 3⟩,
              ⟨some 60, .none, true, 4, .assign (.tmp 62)⟩]))))
        (.cond (.tmp 60)
          (.seq
            (.region [⟨some 63, .none, true, 4, .move (.tmp 5)⟩,
              ⟨some 64, .none, true, 4, .move (.tmp 63)⟩,
              ⟨some 65, .some 64 true, true, 0, .fieldAddr 57 (.tmp 3) 1⟩,
              ⟨some 66, .some 64 true, true, 23, .load 23 (.tmp 65)⟩,
              ⟨some 67, .some 64 true, true, 4, .binOp .geq 23 (.tmp 66) (.const (.int .u64 1)) 23⟩,
              ⟨some 68, .none, true, 4, .pick (.tmp 64) (.tmp 67) (.const (.bool false))⟩,
              ⟨some 69, .none, true, 4, .move (.tmp 68)⟩,
              ⟨some 70, .some 69 true, true, 0, .fieldAddr 57 (.tmp 3) 1⟩,
              ⟨some 71, .some 69 true, true, 23, .load 23 (.tmp 70)⟩,
              ⟨some 72, .some 69 true, true, 4, .binOp .leq 23 (.tmp 71) (.const (.int .u64 4294967295)) 23⟩,
              ⟨some 73, .none, true, 4, .pick (.tmp 69) (.tmp 72) (.const (.bool false))⟩,
              ⟨some 4, .none, true, 4, .assign (.tmp 73)⟩])
          .ret)
          (.seq
            (.seq
              (.region [⟨some 75, .none, true, 4, .binOp .eql 3 (.tmp 45) (.const (.int .i64 2)) 3⟩,
                ⟨some 74, .none, true, 4, .assign (.tmp 75)⟩])
            (.keep [3, 45, 74]
            (.cond (.tmp 74)
              .skip
              (.region [⟨some 76, .none, true, 4, .binOp .eql 3 (.tmp 45) (.const (.int .i64 3)) 3⟩,
                ⟨some 74, .none, true, 4, .assign (.tmp 76)⟩]))))
          (.cond (.tmp 74)
            (.seq
              (.region [⟨some 77, .none, true, 0, .fieldAddr 57 (.tmp 3) 1⟩,
                ⟨some 78, .none, true, 23, .load 23 (.tmp 77)⟩,
                ⟨some 79, .none, true, 4, .binOp .geq 23 (.tmp 78) (.const (.int .u64 1)) 23⟩,
                ⟨some 80, .none, true, 4, .move (.tmp 79)⟩,
                ⟨some 81, .some 80 true, true, 0, .fieldAddr 57 (.tmp 3) 1⟩,
                ⟨some 82, .some 80 true, true, 23, .load 23 (.tmp 81)⟩,
                ⟨some 83, .some 80 true, true, 4, .binOp .leq 23 (.tmp 82) (.const (.int .u64 4294967295)) 23⟩,
                ⟨some 84, .none, true, 4, .pick (.tmp 80) (.tmp 83) (.const (.bool false))⟩,
                ⟨some 4, .none, true, 4, .assign (.tmp 84)⟩])
            .ret)
            .skip))))))))))
  (.seq
    (.region [⟨some 4, .none, true, 4, .assign (.const (.bool false))⟩])
  .ret)))))))))
theorem t_opd_Good : FnT Try.prog f_opd_Good rc_opd_Good [.tmp 4] 2 := ⟨⟨[], Try.f29, _, Try.func29, rfl, by kernel_rfl, by kernel_rfl, by kernel_rfl, rfl, by decide⟩, by kernel_rfl⟩
/-- reeve/opd.Put -/
abbrev f_opd_Put : FuncId := 30
def rc_opd_Putl0 : RCode :=
  (.seq
    (.region [⟨some 45, .none, true, 0, .binOp .lss 3 (.tmp 44) (.tmp 43) 3⟩])
  (.keep [7, 42, 43, 44, 45]
  (.seq
    (.cond (.tmp 45)
      .skip
      (.exit 0))
  (.keep [7, 42, 43, 44]
  (.seq
    (.block 1
      (.seq
        (.region [⟨some 46, .none, true, 3, .move (.tmp 44)⟩,
          ⟨some 47, .none, true, 0, .indexAddr 55 (.tmp 42) (.tmp 44)⟩,
          ⟨some 48, .none, true, 60, .load 60 (.tmp 47)⟩,
          ⟨some 9, .none, true, 0, .alloc 60⟩,
          ⟨some 8, .none, true, 3, .assign (.tmp 46)⟩,
          ⟨none, .none, true, 0, .store 60 (.tmp 9) (.tmp 48)⟩])
      (.keep [7, 8, 9, 42, 43, 44]
      (.seq
        (.region [⟨some 49, .none, true, 29, .move (.tmp 7)⟩,
          ⟨some 50, .none, true, 3, .move (.tmp 8)⟩,
          ⟨some 51, .none, true, 3, .binOp .mul 3 (.const (.int .i64 2)) (.tmp 50) 3⟩,
          ⟨some 52, .none, true, 3, .binOp .add 3 (.const (.int .i64 8)) (.tmp 51) 3⟩,
          ⟨some 53, .none, true, 0, .fieldAddr 60 (.tmp 9) 0⟩,
          ⟨some 54, .none, true, 3, .load 3 (.tmp 53)⟩,
          ⟨some 55, .none, true, 23, .convert 3 23 (.tmp 54)⟩,
          ⟨some 56, .none, true, 0, .indexAddr 29 (.tmp 49) (.tmp 52)⟩,
          ⟨none, .none, true, 0, .store 23 (.tmp 56) (.tmp 55)⟩])
      (.keep [7, 8, 9, 42, 43, 44]
      (.region [⟨some 57, .none, true, 29, .move (.tmp 7)⟩,
        ⟨some 58, .none, true, 3, .move (.tmp 8)⟩,
        ⟨some 59, .none, true, 3, .binOp .mul 3 (.const (.int .i64 2)) (.tmp 58) 3⟩,
        ⟨some 60, .none, true, 3, .binOp .add 3 (.const (.int .i64 8)) (.tmp 59) 3⟩,
        ⟨some 61, .none, true, 3, .binOp .add 3 (.tmp 60) (.const (.int .i64 1)) 3⟩,
        ⟨some 62, .none, true, 0, .fieldAddr 60 (.tmp 9) 1⟩,
        ⟨some 63, .none, true, 23, .load 23 (.tmp 62)⟩,
        ⟨some 64, .none, true, 0, .indexAddr 29 (.tmp 57) (.tmp 61)⟩,
        ⟨none, .none, true, 0, .store 23 (.tmp 64) (.tmp 63)⟩]))))))
  (.keep [7, 42, 43, 44]
  (.region [⟨some 65, .none, true, 3, .binOp .add 3 (.tmp 44) (.const (.int .i64 1)) 3⟩,
    ⟨some 44, .none, true, 3, .move (.tmp 65)⟩])))))))
def rc_opd_Put : RCode :=
  (.seq
    (.region [⟨some 2, .none, true, 0, .box 49 (.tmp 0)⟩,
      ⟨some 3, .none, true, 0, .box 57 (.tmp 1)⟩,
      ⟨some 4, .none, true, 29, .assign (.const (.slice none 0 0))⟩])
  (.keep [2, 3]
  (.seq
    (.seq
      (.region [⟨some 10, .none, true, 49, .load 49 (.tmp 2)⟩,
        ⟨some 11, .none, true, 57, .load 57 (.tmp 3)⟩,
        ⟨some 12, .none, true, 4, .call { callee := .value (.func 29), args := #[.tmp 10, .tmp 11], argTypes := #[49, 57] }⟩,
        ⟨some 13, .none, true, 4, .unOp .not 4 (.tmp 12)⟩])
    (.keep [2, 3, 13]
    (.cond (.tmp 13)
      (.seq
        (.region [⟨some 4, .none, true, 29, .assign (.const (.slice none 0 0))⟩])
      .ret)
      .skip)))
  (.seq
    (.region [⟨some 15, .none, true, 49, .load 49 (.tmp 2)⟩,
      ⟨some 16, .none, true, 90, .call { callee := .value (.func 51), args := #[.tmp 15, .const (.int .i64 0)], argTypes := #[49, 3] }⟩,
      ⟨some 14, .none, true, 90, .move (.tmp 16)⟩,
      ⟨some 17, .none, true, 3, .extract (.tmp 14) 0⟩,
      ⟨some 18, .none, true, 3, .extract (.tmp 14) 1⟩,
      ⟨some 5, .none, true, 3, .assign (.tmp 17)⟩,
      ⟨some 6, .none, true, 3, .assign (.tmp 18)⟩])
  (.keep [3, 6]
  (.seq
    (.region [⟨some 19, .none, true, 3, .move (.tmp 6)⟩,
      ⟨some 20, .none, true, 29, .makeSlice 29 (.tmp 19) (.tmp 19)⟩,
      ⟨some 7, .none, true, 29, .assign (.tmp 20)⟩])
  (.keep [3, 7]
  (.seq
    (.region [⟨some 21, .none, true, 29, .move (.tmp 7)⟩,
      ⟨some 22, .none, true, 57, .load 57 (.tmp 3)⟩,
      ⟨some 23, .none, true, 23, .call { callee := .value (.func 34), args := #[.tmp 22], argTypes := #[57] }⟩,
      ⟨some 24, .none, true, 0, .indexAddr 29 (.tmp 21) (.const (.int .i64 0))⟩,
      ⟨none, .none, true, 0, .store 23 (.tmp 24) (.tmp 23)⟩])
  (.keep [3, 7]
  (.seq
    (.region [⟨some 25, .none, false, 29, .move (.tmp 7)⟩,
      ⟨some 26, .none, false, 29, .slice 29 (.tmp 25) (some (.const (.int .i64 1))) none none⟩,
      ⟨some 27, .none, false, 0, .fieldAddr 57 (.tmp 3) 2⟩,
      ⟨some 28, .none, false, 29, .slice 24 (.tmp 27) none none none⟩,
      ⟨some 29, .none, true, 3, .call { callee := .builtin .copy, args := #[.tmp 26, .tmp 28], argTypes := #[29, 29] }⟩])
  (.keep [3, 7]
  (.seq
    (.region [⟨some 30, .none, true, 29, .move (.tmp 7)⟩,
      ⟨some 31, .none, true, 0, .fieldAddr 57 (.tmp 3) 3⟩,
      ⟨some 32, .none, true, 0, .fieldAddr 54 (.tmp 31) 1⟩,
      ⟨some 33, .none, true, 23, .load 23 (.tmp 32)⟩,
      ⟨some 34, .none, true, 0, .indexAddr 29 (.tmp 30) (.const (.int .i64 5))⟩,
      ⟨none, .none, true, 0, .store 23 (.tmp 34) (.tmp 33)⟩])
  (.keep [3, 7]
  (.seq
    (.region [⟨some 35, .none, true, 29, .move (.tmp 7)⟩,
      ⟨some 36, .none, true, 0, .fieldAddr 57 (.tmp 3) 3⟩,
      ⟨some 37, .none, true, 0, .fieldAddr 54 (.tmp 36) 2⟩,
      ⟨some 38, .none, true, 3, .load 3 (.tmp 37)⟩,
      ⟨some 39, .none, true, 23, .convert 3 23 (.tmp 38)⟩,
      ⟨some 40, .none, true, 0, .indexAddr 29 (.tmp 35) (.const (.int .i64 6))⟩,
      ⟨none, .none, true, 0, .store 23 (.tmp 40) (.tmp 39)⟩])
  (.keep [3, 7]
  (.seq
    (.seq
      (.region [⟨some 41, .none, true, 0, .fieldAddr 57 (.tmp 3) 4⟩,
        ⟨some 42, .none, true, 55, .load 55 (.tmp 41)⟩,
        ⟨some 43, .none, true, 3, .call { callee := .builtin .len, args := #[.tmp 42], argTypes := #[55] }⟩,
        ⟨some 44, .none, true, 3, .move (.const (.int .i64 0))⟩])
    (.keep [7, 42, 43, 44]
    (.block 0
      (.loop [7, 42, 43, 44] rc_opd_Putl0))))
  (.seq
    (.region [⟨some 66, .none, true, 29, .move (.tmp 7)⟩,
      ⟨some 4, .none, true, 29, .assign (.tmp 66)⟩])
  .ret)))))))))))))))))
theorem t_opd_Put : FnT Try.prog f_opd_Put rc_opd_Put [.tmp 4] 2 := ⟨⟨[], Try.f30, _, Try.func30, rfl, by kernel_rfl, by kernel_rfl, by kernel_rfl, rfl, by decide⟩, by kernel_rfl⟩
/-- reeve/opd.Get -/
abbrev f_opd_Get : FuncId := 31
def rc_opd_Getl0 : RCode :=
  (.seq
    (.region [⟨some 88, .none, true, 4, .binOp .lss 3 (.tmp 87) (.tmp 86) 3⟩])
  (.keep [1, 2, 4, 9, 86, 87, 88]
  (.seq
    (.cond (.tmp 88)
      .skip
      (.exit 0))
  (.keep [1, 2, 4, 9, 86, 87]
  (.seq
    (.block 1
      (.seq
        (.region [⟨some 89, .none, true, 3, .move (.tmp 87)⟩,
          ⟨some 11, .none, true, 3, .assign (.tmp 89)⟩])
      (.keep [1, 2, 4, 9, 11, 86, 87]
      (.seq
        (.region [⟨some 90, .none, true, 29, .move (.tmp 1)⟩,
          ⟨some 91, .none, true, 3, .move (.tmp 11)⟩,
          ⟨some 92, .none, true, 3, .binOp .mul 3 (.const (.int .i64 2)) (.tmp 91) 3⟩,
          ⟨some 93, .none, true, 3, .binOp .add 3 (.const (.int .i64 8)) (.tmp 92) 3⟩,
          ⟨some 94, .none, true, 0, .indexAddr 29 (.tmp 90) (.tmp 93)⟩,
          ⟨some 95, .none, true, 23, .load 23 (.tmp 94)⟩,
          ⟨some 12, .none, true, 23, .assign (.tmp 95)⟩])
      (.keep [1, 2, 4, 9, 11, 12, 86, 87]
      (.seq
        (.seq
          (.region [⟨some 96, .none, true, 23, .move (.tmp 12)⟩,
            ⟨some 97, .none, true, 4, .binOp .gtr 23 (.tmp 96) (.const (.int .u64 2147483647)) 23⟩])
        (.keep [1, 2, 4, 9, 11, 12, 86, 87, 97]
        (.cond (.tmp 97)
          (.seq
            (.region [⟨some 98, .none, true, 57, .build 57 #[]⟩,
              ⟨none, .none, true, 0, .store 57 (.tmp 4) (.tmp 98)⟩,
              ⟨some 5, .none, true, 4, .assign (.const (.bool false))⟩])
          .ret)
          .skip)))
      (.regionD [⟨some 99, .none, 0, .fieldAddr 57 (.tmp 9) 4, 0, []⟩,
        ⟨some 100, .none, 55, .load 55 (.tmp 99), 1, []⟩,
        ⟨some 101, .none, 23, .move (.tmp 12), 2, []⟩,
        ⟨some 102, .none, 3, .convert 23 3 (.tmp 101), 3, []⟩,
        ⟨some 103, .none, 29, .move (.tmp 1), 4, []⟩,
        ⟨some 104, .none, 3, .move (.tmp 11), 5, []⟩,
        ⟨some 105, .none, 3, .binOp .mul 3 (.const (.int .i64 2)) (.tmp 104) 3, 6, []⟩,
        ⟨some 106, .none, 3, .binOp .add 3 (.const (.int .i64 8)) (.tmp 105) 3, 7, []⟩,
        ⟨some 107, .none, 3, .binOp .add 3 (.tmp 106) (.const (.int .i64 1)) 3, 8, []⟩,
        ⟨some 108, .none, 0, .indexAddr 29 (.tmp 103) (.tmp 107), 9, []⟩,
        ⟨some 109, .none, 23, .load 23 (.tmp 108), 10, []⟩,
        ⟨some 110, .none, 60, .build 60 #[(0, .tmp 102), (1, .tmp 109)], 11, []⟩,
        ⟨some 111, .none, 55, .buildSlice 55 1 #[(0, .tmp 110)], 12, [1]⟩,
        ⟨some 112, .none, 55, .call { callee := .builtin .append, args := #[.tmp 100, .tmp 111], argTypes := #[55, 55] }, 13, []⟩,
        ⟨some 113, .none, 0, .fieldAddr 57 (.tmp 9) 4, 14, []⟩,
        ⟨none, .none, 0, .store 55 (.tmp 113) (.tmp 112), 15, []⟩])))))))
  (.keep [1, 2, 4, 9, 86, 87]
  (.region [⟨some 114, .none, true, 3, .binOp .add 3 (.tmp 87) (.const (.int .i64 1)) 3⟩,
    ⟨some 87, .none, true, 3, .move (.tmp 114)⟩])))))))
def rc_opd_Get : RCode :=
  (.seq
    (.region [⟨some 2, .none, true, 0, .box 49 (.tmp 0)⟩,
      ⟨some 4, .none, true, 0, .alloc 57⟩,
      ⟨some 5, .none, true, 4, .assign (.const (.bool false))⟩])
  (.keep [1, 2, 4]
  (.seq
    (.region [⟨some 14, .none, true, 49, .load 49 (.tmp 2)⟩,
      ⟨some 15, .none, true, 90, .call { callee := .value (.func 51), args := #[.tmp 14, .const (.int .i64 0)], argTypes := #[49, 3] }⟩,
      ⟨some 13, .none, true, 90, .move (.tmp 15)⟩,
      ⟨some 16, .none, true, 3, .extract (.tmp 13) 0⟩,
      ⟨some 17, .none, true, 3, .extract (.tmp 13) 1⟩,
      ⟨some 6, .none, true, 3, .assign (.tmp 16)⟩,
      ⟨some 7, .none, true, 3, .assign (.tmp 17)⟩])
  (.keep [1, 2, 4, 7]
  (.seq
    (.seq
      (.region [⟨some 18, .none, true, 3, .move (.tmp 7)⟩,
        ⟨some 19, .none, true, 4, .binOp .eql 3 (.tmp 18) (.const (.int .i64 0)) 3⟩,
        ⟨some 20, .none, true, 4, .move (.tmp 19)⟩,
        ⟨some 21, .some 20 false, true, 29, .move (.tmp 1)⟩,
        ⟨some 22, .some 20 false, true, 3, .call { callee := .builtin .len, args := #[.tmp 21], argTypes := #[29] }⟩,
        ⟨some 23, .some 20 false, true, 3, .move (.tmp 7)⟩,
        ⟨some 24, .some 20 false, true, 4, .binOp .neq 3 (.tmp 22) (.tmp 23) 3⟩,
        ⟨some 25, .none, true, 4, .pick (.tmp 20) (.const (.bool true)) (.tmp 24)⟩])
    (.keep [1, 2, 4, 25]
    (.cond (.tmp 25)
      (.seq
        (.region [⟨some 26, .none, true, 57, .build 57 #[]⟩,
          ⟨none, .none, true, 0, .store 57 (.tmp 4) (.tmp 26)⟩,
          ⟨some 5, .none, true, 4, .assign (.const (.bool false))⟩])
      .ret)
      .skip)))
  (.seq
    (.seq
      (.region [⟨some 27, .none, true, 29, .move (.tmp 1)⟩,
        ⟨some 28, .none, true, 0, .indexAddr 29 (.tmp 27) (.const (.int .i64 0))⟩,
        ⟨some 29, .none, true, 23, .load 23 (.tmp 28)⟩,
        ⟨some 30, .none, true, 4, .binOp .eql 23 (.tmp 29) (.const (.int .u64 0)) 23⟩])
    (.keep [1, 2, 4, 30]
    (.cond (.tmp 30)
      (.seq
        (.regionD [⟨some 31, .none, 57, .build 57 #[], 0, []⟩,
          ⟨some 32, .none, 29, .move (.tmp 1), 1, []⟩,
          ⟨some 33, .none, 0, .indexAddr 29 (.tmp 32) (.const (.int .i64 7)), 2, []⟩,
          ⟨some 34, .none, 23, .load 23 (.tmp 33), 3, []⟩,
          ⟨some 35, .none, 4, .binOp .eql 23 (.tmp 34) (.const (.int .u64 0)) 23, 4, []⟩,
          ⟨none, .none, 0, .store 57 (.tmp 4) (.tmp 31), 5, [3]⟩,
          ⟨some 5, .none, 4, .assign (.tmp 35), 6, []⟩])
      .ret)
      .skip)))
  (.seq
    (.regionD [⟨some 36, .none, 29, .move (.tmp 1), 0, []⟩,
      ⟨some 37, .none, 0, .indexAddr 29 (.tmp 36) (.const (.int .i64 0)), 1, []⟩,
      ⟨some 38, .none, 23, .load 23 (.tmp 37), 2, []⟩,
      ⟨some 39, .none, 85, .call { callee := .value (.func 52), args := #[], argTypes := #[] }, 3, [2]⟩,
      ⟨some 40, .none, 29, .call { callee := .value (.func 46), args := #[.tmp 38, .tmp 39], argTypes := #[23, 85] }, 4, []⟩,
      ⟨some 8, .none, 29, .assign (.tmp 40), 5, []⟩])
  (.keep [1, 2, 4, 8]
  (.seq
    (.regionD [⟨some 41, .none, 29, .move (.tmp 8), 0, []⟩,
      ⟨some 42, .none, 0, .indexAddr 29 (.tmp 41) (.const (.int .i64 0)), 1, []⟩,
      ⟨some 43, .none, 23, .load 23 (.tmp 42), 2, []⟩,
      ⟨some 44, .none, 3, .convert 23 3 (.tmp 43), 3, []⟩,
      ⟨some 45, .none, 29, .move (.tmp 8), 4, []⟩,
      ⟨some 46, .none, 0, .indexAddr 29 (.tmp 45) (.const (.int .i64 3)), 5, []⟩,
      ⟨some 47, .none, 23, .load 23 (.tmp 46), 6, []⟩,
      ⟨some 48, .none, 57, .build 57 #[(0, .tmp 44), (1, .tmp 47)], 7, []⟩,
      ⟨some 9, .none, 0, .alloc 57, 8, [2, 6]⟩,
      ⟨none, .none, 0, .store 57 (.tmp 9) (.tmp 48), 9, []⟩])
  (.keep [1, 2, 4, 8, 9]
  (.seq
    (.region [⟨some 49, .none, false, 0, .fieldAddr 57 (.tmp 9) 2⟩,
      ⟨some 50, .none, false, 29, .slice 24 (.tmp 49) none none none⟩,
      ⟨some 51, .none, false, 29, .move (.tmp 1)⟩,
      ⟨some 52, .none, false, 29, .slice 29 (.tmp 51) (some (.const (.int .i64 1))) none none⟩,
      ⟨some 53, .none, true, 3, .call { callee := .builtin .copy, args := #[.tmp 50, .tmp 52], argTypes := #[29, 29] }⟩])
  (.keep [1, 2, 4, 8, 9]
  (.seq
    (.region [⟨some 54, .none, true, 29, .move (.tmp 8)⟩,
      ⟨some 55, .none, true, 0, .indexAddr 29 (.tmp 54) (.const (.int .i64 1))⟩,
      ⟨some 56, .none, true, 23, .load 23 (.tmp 55)⟩,
      ⟨some 57, .none, true, 52, .convert 23 52 (.tmp 56)⟩,
      ⟨some 58, .none, true, 0, .fieldAddr 57 (.tmp 9) 3⟩,
      ⟨some 59, .none, true, 0, .fieldAddr 54 (.tmp 58) 0⟩,
      ⟨none, .none, true, 0, .store 52 (.tmp 59) (.tmp 57)⟩])
  (.keep [1, 2, 4, 8, 9]
  (.seq
    (.region [⟨some 60, .none, true, 29, .move (.tmp 8)⟩,
      ⟨some 61, .none, true, 0, .indexAddr 29 (.tmp 60) (.const (.int .i64 2))⟩,
      ⟨some 62, .none, true, 23, .load 23 (.tmp 61)⟩,
      ⟨some 63, .none, true, 3, .convert 23 3 (.tmp 62)⟩,
      ⟨some 10, .none, true, 3, .assign (.tmp 63)⟩])
  (.keep [1, 2, 4, 9, 10]
  (.seq
    (.seq
      (.region [⟨some 64, .none, true, 3, .move (.tmp 10)⟩,
        ⟨some 65, .none, true, 4, .binOp .gtr 3 (.tmp 64) (.const (.int .i64 600)) 3⟩])
    (.keep [1, 2, 4, 9, 10, 65]
    (.cond (.tmp 65)
      (.seq
        (.region [⟨some 66, .none, true, 57, .build 57 #[]⟩,
          ⟨none, .none, true, 0, .store 57 (.tmp 4) (.tmp 66)⟩,
          ⟨some 5, .none, true, 4, .assign (.const (.bool false))⟩])
      .ret)
      .skip)))
  (.seq
    (.seq
      (.region [⟨some 67, .none, true, 0, .fieldAddr 57 (.tmp 9) 0⟩,
        ⟨some 68, .none, true, 3, .load 3 (.tmp 67)⟩,
        ⟨some 69, .none, true, 4, .binOp .neq 3 (.tmp 68) (.const (.int .i64 1)) 3⟩])
    (.keep [1, 2, 4, 9, 10, 69]
    (.cond (.tmp 69)
      (.seq
        (.seq
          (.region [⟨some 70, .none, true, 29, .move (.tmp 1)⟩,
            ⟨some 71, .none, true, 0, .indexAddr 29 (.tmp 70) (.const (.int .i64 6))⟩,
            ⟨some 72, .none, true, 23, .load 23 (.tmp 71)⟩,
            ⟨some 73, .none, true, 4, .binOp .gtr 23 (.tmp 72) (.const (.int .u64 2147483647)) 23⟩])
        (.keep [1, 2, 4, 9, 10, 73]
        (.cond (.tmp 73)
          (.seq
            (.region [⟨some 74, .none, true, 57, .build 57 #[]⟩,
              ⟨none, .none, true, 0, .store 57 (.tmp 4) (.tmp 74)⟩,
              ⟨some 5, .none, true, 4, .assign (.const (.bool false))⟩])
          .ret)
          .skip)))
      (.region [⟨some 75, .none, false, 29, .move (.tmp 1)⟩,
        ⟨some 76, .none, false, 0, .indexAddr 29 (.tmp 75) (.const (.int .i64 5))⟩,
        ⟨some 77, .none, false, 23, .load 23 (.tmp 76)⟩,
        ⟨some 78, .none, false, 29, .move (.tmp 1)⟩,
        ⟨some 79, .none, false, 0, .indexAddr 29 (.tmp 78) (.const (.int .i64 6))⟩,
        ⟨some 80, .none, false, 23, .load 23 (.tmp 79)⟩,
        ⟨some 81, .none, false, 3, .convert 23 3 (.tmp 80)⟩,
        ⟨some 82, .none, true, 0, .fieldAddr 57 (.tmp 9) 3⟩,
        ⟨some 83, .none, true, 0, .fieldAddr 54 (.tmp 82) 1⟩,
        ⟨none, .none, true, 0, .store 23 (.tmp 83) (.tmp 77)⟩,
        ⟨some 84, .none, true, 0, .fieldAddr 57 (.tmp 9) 3⟩,
        ⟨some 85, .none, true, 0, .fieldAddr 54 (.tmp 84) 2⟩,
        ⟨none, .none, true, 0, .store 3 (.tmp 85) (.tmp 81)⟩]))
      .skip)))
  (.seq
    (.seq
      (.region [⟨some 86, .none, true, 3, .move (.tmp 10)⟩,
        ⟨some 87, .none, true, 3, .move (.const (.int .i64 0))⟩])
    (.keep [1, 2, 4, 9, 86, 87]
    (.block 0
      (.loop [1, 2, 4, 9, 86, 87] rc_opd_Getl0))))
  (.seq
    (.seq
      (.region [⟨some 115, .none, true, 49, .load 49 (.tmp 2)⟩,
        ⟨some 116, .none, true, 57, .load 57 (.tmp 9)⟩,
        ⟨some 117, .none, true, 4, .call { callee := .value (.func 29), args := #[.tmp 115, .tmp 116], argTypes := #[49, 57] }⟩,
        ⟨some 118, .none, true, 4, .unOp .not 4 (.tmp 117)⟩,
        ⟨some 119, .none, true, 4, .move (.tmp 118)⟩,
        ⟨some 120, .some 119 false, true, 29, .move (.tmp 1)⟩,
        ⟨some 121, .some 119 false, true, 0, .indexAddr 29 (.tmp 120) (.const (.int .i64 7))⟩,
        ⟨some 122, .some 119 false, true, 23, .load 23 (.tmp 121)⟩,
        ⟨some 123, .some 119 false, true, 4, .binOp .neq 23 (.tmp 122) (.const (.int .u64 0)) 23⟩,
        ⟨some 124, .none, true, 4, .pick (.tmp 119) (.const (.bool true)) (.tmp 123)⟩])
    (.keep [4, 9, 124]
    (.cond (.tmp 124)
      (.seq
        (.region [⟨some 125, .none, true, 57, .build 57 #[]⟩,
          ⟨none, .none, true, 0, .store 57 (.tmp 4) (.tmp 125)⟩,
          ⟨some 5, .none, true, 4, .assign (.const (.bool false))⟩])
      .ret)
      .skip)))
  (.seq
    (.region [⟨some 126, .none, true, 57, .load 57 (.tmp 9)⟩,
      ⟨none, .none, true, 0, .store 57 (.tmp 4) (.tmp 126)⟩,
      ⟨some 5, .none, true, 4, .assign (.const (.bool true))⟩])
  .ret)))))))))))))))))))))
theorem t_opd_Get : FnT Try.prog f_opd_Get rc_opd_Get [.cell 4 57, .tmp 5] 2 := ⟨⟨[5, 6, 7, 23], Try.f31, _, Try.func31, rfl, by kernel_rfl, by kernel_rfl, by kernel_rfl, rfl, by decide⟩, by kernel_rfl⟩
/-- reeve/reevelaw24.sameD -/
abbrev f_reevelaw24_sameD : FuncId := 32
def rc_reevelaw24_sameDl0 : RCode :=
  (.seq
    (.seq
      (.region [⟨some 41, .none, true, 3, .move (.tmp 5)⟩,
        ⟨some 42, .none, true, 0, .fieldAddr 69 (.tmp 2) 4⟩,
        ⟨some 43, .none, true, 67, .load 67 (.tmp 42)⟩,
        ⟨some 44, .none, true, 3, .call { callee := .builtin .len, args := #[.tmp 43], argTypes := #[67] }⟩,
        ⟨some 45, .none, true, 4, .binOp .lss 3 (.tmp 41) (.tmp 44) 3⟩])
    (.keep [2, 3, 5, 45]
    (.cond (.tmp 45)
      .skip
      (.exit 0))))
  (.seq
    (.block 1
      (.seq
        (.region [⟨some 48, .none, false, 0, .fieldAddr 69 (.tmp 2) 4⟩,
          ⟨some 49, .none, false, 67, .load 67 (.tmp 48)⟩,
          ⟨some 50, .none, false, 3, .move (.tmp 5)⟩,
          ⟨some 51, .none, false, 0, .indexAddr 67 (.tmp 49) (.tmp 50)⟩,
          ⟨some 52, .none, false, 92, .load 92 (.tmp 51)⟩,
          ⟨some 53, .none, false, 0, .fieldAddr 69 (.tmp 3) 4⟩,
          ⟨some 54, .none, false, 67, .load 67 (.tmp 53)⟩,
          ⟨some 55, .none, false, 3, .move (.tmp 5)⟩,
          ⟨some 56, .none, false, 0, .indexAddr 67 (.tmp 54) (.tmp 55)⟩,
          ⟨some 57, .none, false, 92, .load 92 (.tmp 56)⟩,
          ⟨some 58, .none, true, 4, .binOp .neq 92 (.tmp 52) (.tmp 57) 92⟩])
      (.keep [2, 3, 5, 58]
      (.cond (.tmp 58)
        (.seq
          (.region [⟨some 4, .none, true, 4, .assign (.const (.bool false))⟩])
        .ret)
        .skip))))
  (.keep [2, 3, 5]
  (.region [⟨some 46, .none, true, 3, .move (.tmp 5)⟩,
    ⟨some 47, .none, true, 3, .binOp .add 3 (.tmp 46) (.const (.int .i64 1)) 3⟩,
    ⟨some 5, .none, true, 3, .assign (.tmp 47)⟩]))))
def rc_reevelaw24_sameD : RCode :=
  (.seq
    (.region [⟨some 2, .none, true, 0, .box 69 (.tmp 0)⟩,
      ⟨some 3, .none, true, 0, .box 69 (.tmp 1)⟩,
      ⟨some 4, .none, true, 4, .assign (.const (.bool false))⟩])
  (.keep [2, 3]
  (.seq
    (.seq
      (.region [⟨some 6, .none, true, 0, .fieldAddr 69 (.tmp 2) 0⟩,
        ⟨some 7, .none, true, 3, .load 3 (.tmp 6)⟩,
        ⟨some 8, .none, true, 0, .fieldAddr 69 (.tmp 3) 0⟩,
        ⟨some 9, .none, true, 3, .load 3 (.tmp 8)⟩,
        ⟨some 10, .none, true, 4, .binOp .neq 3 (.tmp 7) (.tmp 9) 3⟩,
        ⟨some 11, .none, true, 4, .move (.tmp 10)⟩,
        ⟨some 12, .some 11 false, true, 0, .fieldAddr 69 (.tmp 2) 1⟩,
        ⟨some 13, .some 11 false, true, 23, .load 23 (.tmp 12)⟩,
        ⟨some 14, .some 11 false, true, 0, .fieldAddr 69 (.tmp 3) 1⟩,
        ⟨some 15, .some 11 false, true, 23, .load 23 (.tmp 14)⟩,
        ⟨some 16, .some 11 false, true, 4, .binOp .neq 23 (.tmp 13) (.tmp 15) 23⟩,
        ⟨some 17, .none, true, 4, .pick (.tmp 11) (.const (.bool true)) (.tmp 16)⟩,
        ⟨some 18, .none, true, 4, .move (.tmp 17)⟩,
        ⟨some 19, .some 18 false, true, 0, .fieldAddr 69 (.tmp 2) 2⟩,
        ⟨some 20, .some 18 false, true, 24, .load 24 (.tmp 19)⟩,
        ⟨some 21, .some 18 false, true, 0, .fieldAddr 69 (.tmp 3) 2⟩,
        ⟨some 22, .some 18 false, true, 24, .load 24 (.tmp 21)⟩,
        ⟨some 23, .some 18 false, true, 4, .binOp .neq 24 (.tmp 20) (.tmp 22) 24⟩,
        ⟨some 24, .none, true, 4, .pick (.tmp 18) (.const (.bool true)) (.tmp 23)⟩,
        ⟨some 25, .none, true, 4, .move (.tmp 24)⟩,
        ⟨some 26, .some 25 false, true, 0, .fieldAddr 69 (.tmp 2) 3⟩,
        ⟨some 27, .some 25 false, true, 66, .load 66 (.tmp 26)⟩,
        ⟨some 28, .some 25 false, true, 0, .fieldAddr 69 (.tmp 3) 3⟩,
        ⟨some 29, .some 25 false, true, 66, .load 66 (.tmp 28)⟩,
        ⟨some 30, .some 25 false, true, 4, .binOp .neq 66 (.tmp 27) (.tmp 29) 66⟩,
        ⟨some 31, .none, true, 4, .pick (.tmp 25) (.const (.bool true)) (.tmp 30)⟩,
        ⟨some 32, .none, true, 4, .move (.tmp 31)⟩,
        ⟨some 33, .some 32 false, true, 0, .fieldAddr 69 (.tmp 2) 4⟩,
        ⟨some 34, .some 32 false, true, 67, .load 67 (.tmp 33)⟩,
        ⟨some 35, .some 32 false, true, 3, .call { callee := .builtin .len, args := #[.tmp 34], argTypes := #[67] }⟩,
        ⟨some 36, .some 32 false, true, 0, .fieldAddr 69 (.tmp 3) 4⟩,
        ⟨some 37, .some 32 false, true, 67, .load 67 (.tmp 36)⟩,
        ⟨some 38, .some 32 false, true, 3, .call { callee := .builtin .len, args := #[.tmp 37], argTypes := #[67] }⟩,
        ⟨some 39, .some 32 false, true, 4, .binOp .neq 3 (.tmp 35) (.tmp 38) 3⟩,
        ⟨some 40, .none, true, 4, .pick (.tmp 32) (.const (.bool true)) (.tmp 39)⟩])
    (.keep [2, 3, 40]
    (.cond (.tmp 40)
      (.seq
        (.region [⟨some 4, .none, true, 4, .assign (.const (.bool false))⟩])
      .ret)
      .skip)))
  (.seq
    (.seq
      (.region [⟨some 5, .none, true, 3, .assign (.const (.int .i64 0))⟩])
    (.keep [2, 3, 5]
    (.block 0
      (.loop [2, 3, 5] rc_reevelaw24_sameDl0))))
  (.seq
    (.region [⟨some 4, .none, true, 4, .assign (.const (.bool true))⟩])
  .ret)))))
theorem t_reevelaw24_sameD : FnT Try.prog f_reevelaw24_sameD rc_reevelaw24_sameD [.tmp 4] 2 := ⟨⟨[], Try.f32, _, Try.func32, rfl, by kernel_rfl, by kernel_rfl, by kernel_rfl, rfl, by decide⟩, by kernel_rfl⟩
/-- reeve/reevelaw24.descOf -/
abbrev f_reevelaw24_descOf : FuncId := 33
def rc_reevelaw24_descOf : RCode :=
  (.seq
    (.region [⟨some 1, .none, true, 0, .box 57 (.tmp 0)⟩,
      ⟨some 2, .none, true, 0, .alloc 69⟩])
  (.keep [1, 2]
  (.seq
    (.regionD [⟨some 3, .none, 0, .fieldAddr 57 (.tmp 1) 0, 0, []⟩,
      ⟨some 4, .none, 3, .load 3 (.tmp 3), 1, []⟩,
      ⟨some 5, .none, 0, .fieldAddr 57 (.tmp 1) 1, 2, []⟩,
      ⟨some 6, .none, 23, .load 23 (.tmp 5), 3, []⟩,
      ⟨some 7, .none, 0, .fieldAddr 57 (.tmp 1) 2, 4, []⟩,
      ⟨some 8, .none, 24, .load 24 (.tmp 7), 5, []⟩,
      ⟨some 9, .none, 0, .fieldAddr 57 (.tmp 1) 3, 6, []⟩,
      ⟨some 10, .none, 0, .fieldAddr 54 (.tmp 9) 0, 7, []⟩,
      ⟨some 11, .none, 52, .load 52 (.tmp 10), 8, []⟩,
      ⟨some 12, .none, 0, .fieldAddr 57 (.tmp 1) 3, 9, []⟩,
      ⟨some 13, .none, 0, .fieldAddr 54 (.tmp 12) 1, 10, []⟩,
      ⟨some 14, .none, 23, .load 23 (.tmp 13), 11, []⟩,
      ⟨some 15, .none, 0, .fieldAddr 57 (.tmp 1) 3, 12, []⟩,
      ⟨some 16, .none, 0, .fieldAddr 54 (.tmp 15) 2, 13, []⟩,
      ⟨some 17, .none, 3, .load 3 (.tmp 16), 14, []⟩,
      ⟨some 18, .none, 66, .build 66 #[(0, .tmp 11), (1, .tmp 14), (2, .tmp 17)], 15, []⟩,
      ⟨some 19, .none, 0, .fieldAddr 57 (.tmp 1) 4, 16, []⟩,
      ⟨some 20, .none, 55, .load 55 (.tmp 19), 17, []⟩,
      ⟨some 21, .none, 67, .call { callee := .value (.func 53), args := #[.tmp 20], argTypes := #[55] }, 18, [1, 3, 5, 8, 11, 14]⟩,
      ⟨some 22, .none, 69, .build 69 #[(0, .tmp 4), (1, .tmp 6), (2, .tmp 8), (3, .tmp 18), (4, .tmp 21)], 19, []⟩,
      ⟨none, .none, 0, .store 69 (.tmp 2) (.tmp 22), 20, []⟩])
  .ret)))
theorem t_reevelaw24_descOf : FnT Try.prog f_reevelaw24_descOf rc_reevelaw24_descOf [.cell 2 69] 1 := ⟨⟨[1], Try.f33, _, Try.func33, rfl, by kernel_rfl, by kernel_rfl, by kernel_rfl, rfl, by decide⟩, by kernel_rfl⟩
/-- reeve/opd.First -/
abbrev f_opd_First : FuncId := 34
def rc_opd_First : RCode :=
  (.seq
    (.region [⟨some 1, .none, true, 0, .box 57 (.tmp 0)⟩,
      ⟨some 2, .none, true, 23, .assign (.const (.int .u64 0))⟩])
  (.keep [1]
  (.seq
    (.region [⟨some 6, .none, true, 0, .fieldAddr 57 (.tmp 1) 0⟩,
      ⟨some 7, .none, true, 3, .load 3 (.tmp 6)⟩,
      ⟨some 8, .none, true, 23, .convert 3 23 (.tmp 7)⟩,
      ⟨some 9, .none, true, 0, .fieldAddr 57 (.tmp 1) 3⟩,
      ⟨some 10, .none, true, 0, .fieldAddr 54 (.tmp 9) 0⟩,
      ⟨some 11, .none, true, 52, .load 52 (.tmp 10)⟩,
      ⟨some 12, .none, true, 23, .convert 52 23 (.tmp 11)⟩,
      ⟨some 13, .none, true, 0, .fieldAddr 57 (.tmp 1) 4⟩,
      ⟨some 14, .none, true, 55, .load 55 (.tmp 13)⟩,
      ⟨some 15, .none, true, 3, .call { callee := .builtin .len, args := #[.tmp 14], argTypes := #[55] }⟩,
      ⟨some 16, .none, true, 23, .convert 3 23 (.tmp 15)⟩,
      ⟨some 17, .none, true, 0, .fieldAddr 57 (.tmp 1) 1⟩,
      ⟨some 18, .none, true, 23, .load 23 (.tmp 17)⟩,
      ⟨some 19, .none, true, 29, .buildSlice 29 4 #[(0, .tmp 8), (1, .tmp 12), (2, .tmp 16), (3, .tmp 18)]⟩,
      ⟨some 3, .none, true, 29, .assign (.tmp 19)⟩])
  (.keep [1, 3]
  (.seq
    (.region [⟨some 21, .none, true, 85, .call { callee := .value (.func 52), args := #[], argTypes := #[] }⟩,
      ⟨some 22, .none, true, 29, .move (.tmp 3)⟩,
      ⟨some 23, .none, true, 83, .call { callee := .value (.func 43), args := #[.tmp 21, .tmp 22], argTypes := #[85, 29] }⟩,
      ⟨some 20, .none, true, 83, .move (.tmp 23)⟩,
      ⟨some 24, .none, true, 23, .extract (.tmp 20) 0⟩,
      ⟨some 25, .none, true, 4, .extract (.tmp 20) 1⟩,
      ⟨some 4, .none, true, 23, .assign (.tmp 24)⟩,
      ⟨some 5, .none, true, 4, .assign (.tmp 25)⟩])
  (.keep [1, 3, 4, 5]
  (.seq
    (.seq
      (.region [⟨some 26, .none, true, 4, .move (.tmp 5)⟩,
        ⟨some 27, .none, true, 4, .unOp .not 4 (.tmp 26)⟩,
        ⟨some 28, .none, true, 4, .move (.tmp 27)⟩,
        ⟨some 29, .some 28 false, true, 0, .fieldAddr 57 (.tmp 1) 4⟩,
        ⟨some 30, .some 28 false, true, 55, .load 55 (.tmp 29)⟩,
        ⟨some 31, .some 28 false, true, 3, .call { callee := .builtin .len, args := #[.tmp 30], argTypes := #[55] }⟩,
        ⟨some 32, .some 28 false, true, 4, .binOp .gtr 3 (.tmp 31) (.const (.int .i64 600)) 3⟩,
        ⟨some 33, .none, true, 4, .pick (.tmp 28) (.const (.bool true)) (.tmp 32)⟩,
        ⟨some 34, .none, true, 4, .move (.tmp 33)⟩,
        ⟨some 35, .some 34 false, true, 29, .move (.tmp 3)⟩,
        ⟨some 36, .some 34 false, true, 29, .slice 29 (.tmp 35) none (some (.const (.int .i64 2))) none⟩,
        ⟨some 37, .some 34 false, true, 23, .call { callee := .value (.func 54), args := #[.tmp 36], argTypes := #[29] }⟩,
        ⟨some 38, .some 34 false, true, 4, .binOp .gtr 23 (.tmp 37) (.const (.int .u64 255)) 23⟩,
        ⟨some 39, .none, true, 4, .pick (.tmp 34) (.const (.bool true)) (.tmp 38)⟩])
    (.keep [4, 39]
    (.cond (.tmp 39)
      (.seq
        (.region [⟨some 2, .none, true, 23, .assign (.const (.int .u64 0))⟩])
      .ret)
      .skip)))
  (.seq
    (.region [⟨some 40, .none, true, 23, .move (.tmp 4)⟩,
      ⟨some 2, .none, true, 23, .assign (.tmp 40)⟩])
  .ret))))))))
theorem t_opd_First : FnT Try.prog f_opd_First rc_opd_First [.tmp 2] 1 := ⟨⟨[], Try.f34, _, Try.func34, rfl, by kernel_rfl, by kernel_rfl, by kernel_rfl, rfl, by decide⟩, by kernel_rfl⟩
/-- reeve/reeveref22.PutDesc -/
abbrev f_reeveref22_PutDesc : FuncId := 35
def rc_reeveref22_PutDescl0 : RCode :=
  (.seq
    (.seq
      (.region [⟨some 55, .none, true, 3, .move (.tmp 8)⟩,
        ⟨some 56, .none, true, 0, .fieldAddr 69 (.tmp 3) 4⟩,
        ⟨some 57, .none, true, 67, .load 67 (.tmp 56)⟩,
        ⟨some 58, .none, true, 3, .call { callee := .builtin .len, args := #[.tmp 57], argTypes := #[67] }⟩,
        ⟨some 59, .none, true, 4, .binOp .lss 3 (.tmp 55) (.tmp 58) 3⟩])
    (.keep [3, 7, 8, 59]
    (.cond (.tmp 59)
      .skip
      (.exit 0))))
  (.seq
    (.block 1
      (.region [⟨some 62, .none, false, 29, .move (.tmp 7)⟩,
        ⟨some 63, .none, false, 3, .move (.tmp 8)⟩,
        ⟨some 64, .none, false, 3, .binOp .mul 3 (.const (.int .i64 2)) (.tmp 63) 3⟩,
        ⟨some 65, .none, false, 3, .binOp .add 3 (.const (.int .i64 8)) (.tmp 64) 3⟩,
        ⟨some 66, .none, false, 29, .move (.tmp 7)⟩,
        ⟨some 67, .none, false, 3, .move (.tmp 8)⟩,
        ⟨some 68, .none, false, 3, .binOp .mul 3 (.const (.int .i64 2)) (.tmp 67) 3⟩,
        ⟨some 69, .none, false, 3, .binOp .add 3 (.const (.int .i64 9)) (.tmp 68) 3⟩,
        ⟨some 70, .none, false, 0, .fieldAddr 69 (.tmp 3) 4⟩,
        ⟨some 71, .none, false, 67, .load 67 (.tmp 70)⟩,
        ⟨some 72, .none, false, 3, .move (.tmp 8)⟩,
        ⟨some 73, .none, false, 0, .indexAddr 67 (.tmp 71) (.tmp 72)⟩,
        ⟨some 74, .none, false, 0, .fieldAddr 92 (.tmp 73) 0⟩,
        ⟨some 75, .none, false, 3, .load 3 (.tmp 74)⟩,
        ⟨some 76, .none, false, 23, .convert 3 23 (.tmp 75)⟩,
        ⟨some 77, .none, false, 0, .fieldAddr 69 (.tmp 3) 4⟩,
        ⟨some 78, .none, false, 67, .load 67 (.tmp 77)⟩,
        ⟨some 79, .none, false, 3, .move (.tmp 8)⟩,
        ⟨some 80, .none, false, 0, .indexAddr 67 (.tmp 78) (.tmp 79)⟩,
        ⟨some 81, .none, false, 0, .fieldAddr 92 (.tmp 80) 1⟩,
        ⟨some 82, .none, false, 23, .load 23 (.tmp 81)⟩,
        ⟨some 83, .none, true, 0, .indexAddr 29 (.tmp 62) (.tmp 65)⟩,
        ⟨none, .none, true, 0, .store 23 (.tmp 83) (.tmp 76)⟩,
        ⟨some 84, .none, true, 0, .indexAddr 29 (.tmp 66) (.tmp 69)⟩,
        ⟨none, .none, true, 0, .store 23 (.tmp 84) (.tmp 82)⟩]))
  (.keep [3, 7, 8]
  (.region [⟨some 60, .none, true, 3, .move (.tmp 8)⟩,
    ⟨some 61, .none, true, 3, .binOp .add 3 (.tmp 60) (.const (.int .i64 1)) 3⟩,
    ⟨some 8, .none, true, 3, .assign (.tmp 61)⟩]))))
def rc_reeveref22_PutDesc : RCode :=
  (.seq
    (.region [⟨some 2, .none, true, 0, .box 73 (.tmp 0)⟩,
      ⟨some 3, .none, true, 0, .box 69 (.tmp 1)⟩,
      ⟨some 4, .none, true, 29, .assign (.const (.slice none 0 0))⟩])
  (.keep [2, 3]
  (.seq
    (.seq
      (.region [⟨some 9, .none, true, 73, .load 73 (.tmp 2)⟩,
        ⟨some 10, .none, true, 69, .load 69 (.tmp 3)⟩,
        ⟨some 11, .none, true, 4, .call { callee := .value (.func 38), args := #[.tmp 9, .tmp 10], argTypes := #[73, 69] }⟩,
        ⟨some 12, .none, true, 4, .unOp .not 4 (.tmp 11)⟩])
    (.keep [2, 3, 12]
    (.cond (.tmp 12)
      (.seq
        (.region [⟨some 4, .none, true, 29, .assign (.const (.slice none 0 0))⟩])
      .ret)
      .skip)))
  (.seq
    (.region [⟨some 14, .none, true, 73, .load 73 (.tmp 2)⟩,
      ⟨some 15, .none, true, 90, .call { callee := .value (.func 55), args := #[.tmp 14, .const (.int .i64 0)], argTypes := #[73, 3] }⟩,
      ⟨some 13, .none, true, 90, .move (.tmp 15)⟩,
      ⟨some 16, .none, true, 3, .extract (.tmp 13) 0⟩,
      ⟨some 17, .none, true, 3, .extract (.tmp 13) 1⟩,
      ⟨some 5, .none, true, 3, .assign (.tmp 16)⟩,
      ⟨some 6, .none, true, 3, .assign (.tmp 17)⟩])
  (.keep [3, 6]
  (.seq
    (.region [⟨some 18, .none, true, 3, .move (.tmp 6)⟩,
      ⟨some 19, .none, true, 29, .makeSlice 29 (.tmp 18) (.tmp 18)⟩,
      ⟨some 7, .none, true, 29, .assign (.tmp 19)⟩])
  (.keep [3, 7]
  (.seq
    (.regionD [⟨some 20, .none, 29, .move (.tmp 7), 0, []⟩,
      ⟨some 21, .none, 29, .move (.tmp 7), 1, []⟩,
      ⟨some 22, .none, 29, .move (.tmp 7), 2, []⟩,
      ⟨some 23, .none, 29, .move (.tmp 7), 3, []⟩,
      ⟨some 24, .none, 29, .move (.tmp 7), 4, []⟩,
      ⟨some 25, .none, 29, .move (.tmp 7), 5, []⟩,
      ⟨some 26, .none, 29, .move (.tmp 7), 6, []⟩,
      ⟨some 27, .none, 69, .load 69 (.tmp 3), 7, []⟩,
      ⟨some 28, .none, 23, .call { callee := .value (.func 39), args := #[.tmp 27], argTypes := #[69] }, 8, []⟩,
      ⟨some 29, .none, 0, .fieldAddr 69 (.tmp 3) 2, 9, []⟩,
      ⟨some 30, .none, 0, .indexAddr 24 (.tmp 29) (.const (.int .i64 0)), 10, []⟩,
      ⟨some 31, .none, 23, .load 23 (.tmp 30), 11, [8]⟩,
      ⟨some 32, .none, 0, .fieldAddr 69 (.tmp 3) 2, 12, []⟩,
      ⟨some 33, .none, 0, .indexAddr 24 (.tmp 32) (.const (.int .i64 1)), 13, []⟩,
      ⟨some 34, .none, 23, .load 23 (.tmp 33), 14, [8]⟩,
      ⟨some 35, .none, 0, .fieldAddr 69 (.tmp 3) 2, 15, []⟩,
      ⟨some 36, .none, 0, .indexAddr 24 (.tmp 35) (.const (.int .i64 2)), 16, []⟩,
      ⟨some 37, .none, 23, .load 23 (.tmp 36), 17, [8]⟩,
      ⟨some 38, .none, 0, .fieldAddr 69 (.tmp 3) 2, 18, []⟩,
      ⟨some 39, .none, 0, .indexAddr 24 (.tmp 38) (.const (.int .i64 3)), 19, []⟩,
      ⟨some 40, .none, 23, .load 23 (.tmp 39), 20, [8]⟩,
      ⟨some 41, .none, 0, .fieldAddr 69 (.tmp 3) 3, 21, []⟩,
      ⟨some 42, .none, 0, .fieldAddr 66 (.tmp 41) 1, 22, []⟩,
      ⟨some 43, .none, 23, .load 23 (.tmp 42), 23, [8]⟩,
      ⟨some 44, .none, 0, .fieldAddr 69 (.tmp 3) 3, 24, []⟩,
      ⟨some 45, .none, 0, .fieldAddr 66 (.tmp 44) 2, 25, []⟩,
      ⟨some 46, .none, 3, .load 3 (.tmp 45), 26, [8]⟩,
      ⟨some 47, .none, 23, .convert 3 23 (.tmp 46), 27, []⟩,
      ⟨some 48, .none, 0, .indexAddr 29 (.tmp 20) (.const (.int .i64 0)), 28, []⟩,
      ⟨none, .none, 0, .store 23 (.tmp 48) (.tmp 28), 29, [11, 14, 17, 20, 23, 26]⟩,
      ⟨some 49, .none, 0, .indexAddr 29 (.tmp 21) (.const (.int .i64 1)), 30, []⟩,
      ⟨none, .none, 0, .store 23 (.tmp 49) (.tmp 31), 31, [14, 17, 20, 23, 26]⟩,
      ⟨some 50, .none, 0, .indexAddr 29 (.tmp 22) (.const (.int .i64 2)), 32, []⟩,
      ⟨none, .none, 0, .store 23 (.tmp 50) (.tmp 34), 33, [17, 20, 23, 26]⟩,
      ⟨some 51, .none, 0, .indexAddr 29 (.tmp 23) (.const (.int .i64 3)), 34, []⟩,
      ⟨none, .none, 0, .store 23 (.tmp 51) (.tmp 37), 35, [20, 23, 26]⟩,
      ⟨some 52, .none, 0, .indexAddr 29 (.tmp 24) (.const (.int .i64 4)), 36, []⟩,
      ⟨none, .none, 0, .store 23 (.tmp 52) (.tmp 40), 37, [23, 26]⟩,
      ⟨some 53, .none, 0, .indexAddr 29 (.tmp 25) (.const (.int .i64 5)), 38, []⟩,
      ⟨none, .none, 0, .store 23 (.tmp 53) (.tmp 43), 39, [26]⟩,
      ⟨some 54, .none, 0, .indexAddr 29 (.tmp 26) (.const (.int .i64 6)), 40, []⟩,
      ⟨none, .none, 0, .store 23 (.tmp 54) (.tmp 47), 41, []⟩])
  (.keep [3, 7]
  (.seq
    (.seq
      (.region [⟨some 8, .none, true, 3, .assign (.const (.int .i64 0))⟩])
    (.keep [3, 7, 8]
    (.block 0
      (.loop [3, 7, 8] rc_reeveref22_PutDescl0))))
  (.seq
    (.region [⟨some 85, .none, true, 29, .move (.tmp 7)⟩,
      ⟨some 4, .none, true, 29, .assign (.tmp 85)⟩])
  .ret)))))))))))
theorem t_reeveref22_PutDesc : FnT Try.prog f_reeveref22_PutDesc rc_reeveref22_PutDesc [.tmp 4] 2 := ⟨⟨[5], Try.f35, _, Try.func35, rfl, by kernel_rfl, by kernel_rfl, by kernel_rfl, rfl, by decide⟩, by kernel_rfl⟩
/-- reeve/reevelaw24.geoOf -/
abbrev f_reevelaw24_geoOf : FuncId := 36
def rc_reevelaw24_geoOf : RCode :=
  (.seq
    (.region [⟨some 1, .none, true, 0, .box 49 (.tmp 0)⟩,
      ⟨some 2, .none, true, 0, .alloc 73⟩])
  (.keep [1, 2]
  (.seq
    (.region [⟨some 3, .none, true, 0, .fieldAddr 49 (.tmp 1) 0⟩,
      ⟨some 4, .none, true, 3, .load 3 (.tmp 3)⟩,
      ⟨some 5, .none, true, 0, .fieldAddr 49 (.tmp 1) 1⟩,
      ⟨some 6, .none, true, 3, .load 3 (.tmp 5)⟩,
      ⟨some 7, .none, true, 0, .fieldAddr 49 (.tmp 1) 2⟩,
      ⟨some 8, .none, true, 3, .load 3 (.tmp 7)⟩,
      ⟨some 9, .none, true, 73, .build 73 #[(0, .tmp 4), (1, .tmp 6), (2, .tmp 8)]⟩,
      ⟨none, .none, true, 0, .store 73 (.tmp 2) (.tmp 9)⟩])
  .ret)))
theorem t_reevelaw24_geoOf : FnT Try.prog f_reevelaw24_geoOf rc_reevelaw24_geoOf [.cell 2 73] 1 := ⟨⟨[], Try.f36, _, Try.func36, rfl, by kernel_rfl, by kernel_rfl, by kernel_rfl, rfl, by decide⟩, by kernel_rfl⟩
/-- reeve/reevelaw24.words -/
abbrev f_reevelaw24_words : FuncId := 37
def rc_reevelaw24_wordsl0 : RCode :=
  (.seq
    (.seq
      (.region [⟨some 11, .none, true, 3, .move (.tmp 5)⟩,
        ⟨some 12, .none, true, 29, .move (.tmp 0)⟩,
        ⟨some 13, .none, true, 3, .call { callee := .builtin .len, args := #[.tmp 12], argTypes := #[29] }⟩,
        ⟨some 14, .none, true, 4, .binOp .lss 3 (.tmp 11) (.tmp 13) 3⟩])
    (.keep [0, 1, 5, 14]
    (.cond (.tmp 14)
      .skip
      (.exit 0))))
  (.seq
    (.block 1
      (.seq
        (.region [⟨some 17, .none, false, 29, .move (.tmp 0)⟩,
          ⟨some 18, .none, false, 3, .move (.tmp 5)⟩,
          ⟨some 19, .none, false, 0, .indexAddr 29 (.tmp 17) (.tmp 18)⟩,
          ⟨some 20, .none, false, 23, .load 23 (.tmp 19)⟩,
          ⟨some 21, .none, false, 29, .move (.tmp 1)⟩,
          ⟨some 22, .none, false, 3, .move (.tmp 5)⟩,
          ⟨some 23, .none, false, 0, .indexAddr 29 (.tmp 21) (.tmp 22)⟩,
          ⟨some 24, .none, false, 23, .load 23 (.tmp 23)⟩,
          ⟨some 25, .none, true, 4, .binOp .neq 23 (.tmp 20) (.tmp 24) 23⟩])
      (.keep [0, 1, 5, 25]
      (.cond (.tmp 25)
        (.seq
          (.region [⟨some 4, .none, true, 4, .assign (.const (.bool false))⟩])
        .ret)
        .skip))))
  (.keep [0, 1, 5]
  (.region [⟨some 15, .none, true, 3, .move (.tmp 5)⟩,
    ⟨some 16, .none, true, 3, .binOp .add 3 (.tmp 15) (.const (.int .i64 1)) 3⟩,
    ⟨some 5, .none, true, 3, .assign (.tmp 16)⟩]))))
def rc_reevelaw24_words : RCode :=
  (.seq
    (.region [⟨some 4, .none, true, 4, .assign (.const (.bool false))⟩])
  (.keep [0, 1]
  (.seq
    (.seq
      (.region [⟨some 6, .none, true, 29, .move (.tmp 0)⟩,
        ⟨some 7, .none, true, 3, .call { callee := .builtin .len, args := #[.tmp 6], argTypes := #[29] }⟩,
        ⟨some 8, .none, true, 29, .move (.tmp 1)⟩,
        ⟨some 9, .none, true, 3, .call { callee := .builtin .len, args := #[.tmp 8], argTypes := #[29] }⟩,
        ⟨some 10, .none, true, 4, .binOp .neq 3 (.tmp 7) (.tmp 9) 3⟩])
    (.keep [0, 1, 10]
    (.cond (.tmp 10)
      (.seq
        (.region [⟨some 4, .none, true, 4, .assign (.const (.bool false))⟩])
      .ret)
      .skip)))
  (.seq
    (.seq
      (.region [⟨some 5, .none, true, 3, .assign (.const (.int .i64 0))⟩])
    (.keep [0, 1, 5]
    (.block 0
      (.loop [0, 1, 5] rc_reevelaw24_wordsl0))))
  (.seq
    (.region [⟨some 4, .none, true, 4, .assign (.const (.bool true))⟩])
  .ret)))))
theorem t_reevelaw24_words : FnT Try.prog f_reevelaw24_words rc_reevelaw24_words [.tmp 4] 2 := ⟨⟨[], Try.f37, _, Try.func37, rfl, by kernel_rfl, by kernel_rfl, by kernel_rfl, rfl, by decide⟩, by kernel_rfl⟩
/-- reeve/reeveref22.GoodDesc -/
abbrev f_reeveref22_GoodDesc : FuncId := 38
def rc_reeveref22_GoodDesc : RCode :=
  (.seq
    (.region [⟨some 2, .none, true, 0, .box 73 (.tmp 0)⟩,
      ⟨some 3, .none, true, 0, .box 69 (.tmp 1)⟩,
      ⟨some 4, .none, true, 4, .assign (.const (.bool false))⟩])
  (.keep [2, 3]
  (.seq
    (.seq
      (.region [⟨some 6, .none, true, 73, .load 73 (.tmp 2)⟩,
        ⟨some 7, .none, true, 4, .call { callee := .value (.func 56), args := #[.tmp 6], argTypes := #[73] }⟩,
        ⟨some 8, .none, true, 4, .unOp .not 4 (.tmp 7)⟩,
        ⟨some 9, .none, true, 4, .move (.tmp 8)⟩,
        ⟨some 10, .some 9 false, true, 0, .fieldAddr 69 (.tmp 3) 0⟩,
        ⟨some 11, .some 9 false, true, 3, .load 3 (.tmp 10)⟩,
        ⟨some 12, .some 9 false, true, 4, .binOp .lss 3 (.tmp 11) (.const (.int .i64 0)) 3⟩,
        ⟨some 13, .none, true, 4, .pick (.tmp 9) (.const (.bool true)) (.tmp 12)⟩,
        ⟨some 14, .none, true, 4, .move (.tmp 13)⟩,
        ⟨some 15, .some 14 false, true, 0, .fieldAddr 69 (.tmp 3) 0⟩,
        ⟨some 16, .some 14 false, true, 3, .load 3 (.tmp 15)⟩,
        ⟨some 17, .some 14 false, true, 4, .binOp .gtr 3 (.tmp 16) (.const (.int .i64 4)) 3⟩,
        ⟨some 18, .none, true, 4, .pick (.tmp 14) (.const (.bool true)) (.tmp 17)⟩])
    (.keep [2, 3, 18]
    (.cond (.tmp 18)
      (.seq
        (.region [⟨some 4, .none, true, 4, .assign (.const (.bool false))⟩])
      .ret)
      .skip)))
  (.seq
    (.region [⟨some 19, .none, true, 0, .fieldAddr 69 (.tmp 3) 3⟩,
      ⟨some 20, .none, true, 66, .load 66 (.tmp 19)⟩,
      ⟨some 21, .none, true, 66, .build 66 #[]⟩,
      ⟨some 22, .none, true, 4, .binOp .eql 66 (.tmp 20) (.tmp 21) 66⟩,
      ⟨some 23, .none, true, 4, .move (.tmp 22)⟩,
      ⟨some 24, .some 23 true, true, 0, .fieldAddr 69 (.tmp 3) 4⟩,
      ⟨some 25, .some 23 true, true, 67, .load 67 (.tmp 24)⟩,
      ⟨some 26, .some 23 true, true, 3, .call { callee := .builtin .len, args := #[.tmp 25], argTypes := #[67] }⟩,
      ⟨some 27, .some 23 true, true, 4, .binOp .eql 3 (.tmp 26) (.const (.int .i64 0)) 3⟩,
      ⟨some 28, .none, true, 4, .pick (.tmp 23) (.tmp 27) (.const (.bool false))⟩,
      ⟨some 5, .none, true, 4, .assign (.tmp 28)⟩])
  (.keep [2, 3, 5]
  (.seq
    (.seq
      (.region [⟨some 29, .none, true, 0, .fieldAddr 69 (.tmp 3) 0⟩,
        ⟨some 30, .none, true, 3, .load 3 (.tmp 29)⟩,
        ⟨some 31, .none, true, 4, .binOp .eql 3 (.tmp 30) (.const (.int .i64 0)) 3⟩])
    (.keep [2, 3, 5, 31]
    (.cond (.tmp 31)
      (.seq
        (.region [⟨some 32, .none, true, 4, .move (.tmp 5)⟩,
          ⟨some 33, .none, true, 4, .move (.tmp 32)⟩,
          ⟨some 34, .some 33 true, true, 0, .fieldAddr 69 (.tmp 3) 1⟩,
          ⟨some 35, .some 33 true, true, 23, .load 23 (.tmp 34)⟩,
          ⟨some 36, .some 33 true, true, 4, .binOp .eql 23 (.tmp 35) (.const (.int .u64 0)) 23⟩,
          ⟨some 37, .none, true, 4, .pick (.tmp 33) (.tmp 36) (.const (.bool false))⟩,
          ⟨some 38, .none, true, 4, .move (.tmp 37)⟩,
          ⟨some 39, .some 38 true, true, 0, .fieldAddr 69 (.tmp 3) 2⟩,
          ⟨some 40, .some 38 true, true, 24, .load 24 (.tmp 39)⟩,
          ⟨some 41, .some 38 true, true, 24, .build 24 #[]⟩,
          ⟨some 42, .some 38 true, true, 4, .binOp .eql 24 (.tmp 40) (.tmp 41) 24⟩,
          ⟨some 43, .none, true, 4, .pick (.tmp 38) (.tmp 42) (.const (.bool false))⟩,
          ⟨some 4, .none, true, 4, .assign (.tmp 43)⟩])
      .ret)
      .skip)))
  (.seq
    (.seq
      (.region [⟨some 44, .none, true, 0, .fieldAddr 69 (.tmp 3) 0⟩,
        ⟨some 45, .none, true, 3, .load 3 (.tmp 44)⟩,
        ⟨some 46, .none, true, 4, .binOp .eql 3 (.tmp 45) (.const (.int .i64 1)) 3⟩,
        ⟨some 47, .none, true, 4, .move (.tmp 46)⟩,
        ⟨some 48, .some 47 false, true, 0, .fieldAddr 69 (.tmp 3) 0⟩,
        ⟨some 49, .some 47 false, true, 3, .load 3 (.tmp 48)⟩,
        ⟨some 50, .some 47 false, true, 4, .binOp .eql 3 (.tmp 49) (.const (.int .i64 4)) 3⟩,
        ⟨some 51, .none, true, 4, .pick (.tmp 47) (.const (.bool true)) (.tmp 50)⟩,
        ⟨some 52, .none, true, 4, .move (.tmp 51)⟩,
        ⟨some 53, .some 52 true, true, 4, .move (.tmp 5)⟩,
        ⟨some 54, .some 52 true, true, 4, .unOp .not 4 (.tmp 53)⟩,
        ⟨some 55, .none, true, 4, .pick (.tmp 52) (.tmp 54) (.const (.bool false))⟩])
    (.keep [2, 3, 55]
    (.cond (.tmp 55)
      (.seq
        (.region [⟨some 4, .none, true, 4, .assign (.const (.bool false))⟩])
      .ret)
      .skip)))
  (.seq
    (.region [⟨some 56, .none, true, 0, .fieldAddr 69 (.tmp 3) 1⟩,
      ⟨some 57, .none, true, 23, .load 23 (.tmp 56)⟩,
      ⟨some 58, .none, true, 4, .binOp .geq 23 (.tmp 57) (.const (.int .u64 1)) 23⟩,
      ⟨some 59, .none, true, 4, .move (.tmp 58)⟩,
      ⟨some 60, .some 59 true, true, 0, .fieldAddr 69 (.tmp 3) 1⟩,
      ⟨some 61, .some 59 true, true, 23, .load 23 (.tmp 60)⟩,
      ⟨some 62, .some 59 true, true, 4, .binOp .lss 23 (.tmp 61) (.const (.int .u64 4294967296)) 23⟩,
      ⟨some 63, .none, true, 4, .pick (.tmp 59) (.tmp 62) (.const (.bool false))⟩,
      ⟨some 64, .none, true, 4, .move (.tmp 63)⟩,
      ⟨some 65, .some 64 true, true, 0, .fieldAddr 69 (.tmp 3) 3⟩,
      ⟨some 66, .some 64 true, true, 0, .fieldAddr 66 (.tmp 65) 0⟩,
      ⟨some 67, .some 64 true, true, 52, .load 52 (.tmp 66)⟩,
      ⟨some 68, .some 64 true, true, 4, .binOp .geq 52 (.tmp 67) (.const (.int .i64 0)) 52⟩,
      ⟨some 69, .none, true, 4, .pick (.tmp 64) (.tmp 68) (.const (.bool false))⟩,
      ⟨some 70, .none, true, 4, .move (.tmp 69)⟩,
      ⟨some 71, .some 70 true, true, 0, .fieldAddr 69 (.tmp 3) 3⟩,
      ⟨some 72, .some 70 true, true, 0, .fieldAddr 66 (.tmp 71) 0⟩,
      ⟨some 73, .some 70 true, true, 52, .load 52 (.tmp 72)⟩,
      ⟨some 74, .some 70 true, true, 4, .binOp .lss 52 (.tmp 73) (.const (.int .i64 256)) 52⟩,
      ⟨some 75, .none, true, 4, .pick (.tmp 70) (.tmp 74) (.const (.bool false))⟩,
      ⟨some 76, .none, true, 4, .move (.tmp 75)⟩,
      ⟨some 77, .some 76 true, true, 0, .fieldAddr 69 (.tmp 3) 3⟩,
      ⟨some 78, .some 76 true, true, 0, .fieldAddr 66 (.tmp 77) 2⟩,
      ⟨some 79, .some 76 true, true, 3, .load 3 (.tmp 78)⟩,
      ⟨some 80, .some 76 true, true, 4, .binOp .geq 3 (.tmp 79) (.const (.int .i64 0)) 3⟩,
      ⟨some 81, .none, true, 4, .pick (.tmp 76) (.tmp 80) (.const (.bool false))⟩,
      ⟨some 82, .none, true, 4, .move (.tmp 81)⟩,
      ⟨some 83, .some 82 true, true, 0, .fieldAddr 69 (.tmp 3) 3⟩,
      ⟨some 84, .some 82 true, true, 0, .fieldAddr 66 (.tmp 83) 2⟩,
      ⟨some 85, .some 82 true, true, 3, .load 3 (.tmp 84)⟩,
      ⟨some 86, .some 82 true, true, 4, .binOp .lss 3 (.tmp 85) (.const (.int .i64 2147483648)) 3⟩,
      ⟨some 87, .none, true, 4, .pick (.tmp 82) (.tmp 86) (.const (.bool false))⟩,
      ⟨some 88, .none, true, 4, .move (.tmp 87)⟩,
      ⟨some 89, .some 88 true, true, 73, .load 73 (.tmp 2)⟩,
      ⟨some 90, .some 88 true, true, 0, .fieldAddr 69 (.tmp 3) 4⟩,
      ⟨some 91, .some 88 true, true, 67, .load 67 (.tmp 90)⟩,
      ⟨some 92, .some 88 true, true, 4, .call { callee := .value (.func 57), args := #[.tmp 89, .tmp 91], argTypes := #[73, 67] }⟩,
      ⟨some 93, .none, true, 4, .pick (.tmp 88) (.tmp 92) (.const (.bool false))⟩,
      ⟨some 4, .none, true, 4, .assign (.tmp 93)⟩])
  .ret))))))))
theorem t_reeveref22_GoodDesc : FnT Try.prog f_reeveref22_GoodDesc rc_reeveref22_GoodDesc [.tmp 4] 2 := ⟨⟨[], Try.f38, _, Try.func38, rfl, by kernel_rfl, by kernel_rfl, by kernel_rfl, rfl, by decide⟩, by kernel_rfl⟩
/-- reeve/reeveref22.First -/
abbrev f_reeveref22_First : FuncId := 39
def rc_reeveref22_First : RCode :=
  (.seq
    (.region [⟨some 1, .none, true, 0, .box 69 (.tmp 0)⟩,
      ⟨some 2, .none, true, 23, .assign (.const (.int .u64 0))⟩])
  (.keep [1]
  (.seq
    (.seq
      (.region [⟨some 3, .none, true, 0, .fieldAddr 69 (.tmp 1) 0⟩,
        ⟨some 4, .none, true, 3, .load 3 (.tmp 3)⟩,
        ⟨some 5, .none, true, 4, .binOp .lss 3 (.tmp 4) (.const (.int .i64 0)) 3⟩,
        ⟨some 6, .none, true, 4, .move (.tmp 5)⟩,
        ⟨some 7, .some 6 false, true, 0, .fieldAddr 69 (.tmp 1) 0⟩,
        ⟨some 8, .some 6 false, true, 3, .load 3 (.tmp 7)⟩,
        ⟨some 9, .some 6 false, true, 4, .binOp .gtr 3 (.tmp 8) (.const (.int .i64 255)) 3⟩,
        ⟨some 10, .none, true, 4, .pick (.tmp 6) (.const (.bool true)) (.tmp 9)⟩,
        ⟨some 11, .none, true, 4, .move (.tmp 10)⟩,
        ⟨some 12, .some 11 false, true, 0, .fieldAddr 69 (.tmp 1) 3⟩,
        ⟨some 13, .some 11 false, true, 0, .fieldAddr 66 (.tmp 12) 0⟩,
        ⟨some 14, .some 11 false, true, 52, .load 52 (.tmp 13)⟩,
        ⟨some 15, .some 11 false, true, 4, .binOp .lss 52 (.tmp 14) (.const (.int .i64 0)) 52⟩,
        ⟨some 16, .none, true, 4, .pick (.tmp 11) (.const (.bool true)) (.tmp 15)⟩,
        ⟨some 17, .none, true, 4, .move (.tmp 16)⟩,
        ⟨some 18, .some 17 false, true, 0, .fieldAddr 69 (.tmp 1) 3⟩,
        ⟨some 19, .some 17 false, true, 0, .fieldAddr 66 (.tmp 18) 0⟩,
        ⟨some 20, .some 17 false, true, 52, .load 52 (.tmp 19)⟩,
        ⟨some 21, .some 17 false, true, 4, .binOp .gtr 52 (.tmp 20) (.const (.int .i64 255)) 52⟩,
        ⟨some 22, .none, true, 4, .pick (.tmp 17) (.const (.bool true)) (.tmp 21)⟩,
        ⟨some 23, .none, true, 4, .move (.tmp 22)⟩,
        ⟨some 24, .some 23 false, true, 0, .fieldAddr 69 (.tmp 1) 1⟩,
        ⟨some 25, .some 23 false, true, 23, .load 23 (.tmp 24)⟩,
        ⟨some 26, .some 23 false, true, 4, .binOp .geq 23 (.tmp 25) (.const (.int .u64 4294967296)) 23⟩,
        ⟨some 27, .none, true, 4, .pick (.tmp 23) (.const (.bool true)) (.tmp 26)⟩,
        ⟨some 28, .none, true, 4, .move (.tmp 27)⟩,
        ⟨some 29, .some 28 false, true, 0, .fieldAddr 69 (.tmp 1) 4⟩,
        ⟨some 30, .some 28 false, true, 67, .load 67 (.tmp 29)⟩,
        ⟨some 31, .some 28 false, true, 3, .call { callee := .builtin .len, args := #[.tmp 30], argTypes := #[67] }⟩,
        ⟨some 32, .some 28 false, true, 4, .binOp .gtr 3 (.tmp 31) (.const (.int .i64 600)) 3⟩,
        ⟨some 33, .none, true, 4, .pick (.tmp 28) (.const (.bool true)) (.tmp 32)⟩])
    (.keep [1, 33]
    (.cond (.tmp 33)
      (.seq
        (.region [⟨some 2, .none, true, 23, .assign (.const (.int .u64 0))⟩])
      .ret)
      .skip)))
  (.seq
    (.region [⟨some 34, .none, true, 0, .fieldAddr 69 (.tmp 1) 0⟩,
      ⟨some 35, .none, true, 3, .load 3 (.tmp 34)⟩,
      ⟨some 36, .none, true, 23, .convert 3 23 (.tmp 35)⟩,
      ⟨some 37, .none, true, 0, .fieldAddr 69 (.tmp 1) 3⟩,
      ⟨some 38, .none, true, 0, .fieldAddr 66 (.tmp 37) 0⟩,
      ⟨some 39, .none, true, 52, .load 52 (.tmp 38)⟩,
      ⟨some 40, .none, true, 23, .convert 52 23 (.tmp 39)⟩,
      ⟨some 41, .none, true, 23, .binOp .mul 23 (.tmp 40) (.const (.int .u64 256)) 23⟩,
      ⟨some 42, .none, true, 23, .binOp .add 23 (.tmp 36) (.tmp 41) 23⟩,
      ⟨some 43, .none, true, 0, .fieldAddr 69 (.tmp 1) 4⟩,
      ⟨some 44, .none, true, 67, .load 67 (.tmp 43)⟩,
      ⟨some 45, .none, true, 3, .call { callee := .builtin .len, args := #[.tmp 44], argTypes := #[67] }⟩,
      ⟨some 46, .none, true, 23, .convert 3 23 (.tmp 45)⟩,
      ⟨some 47, .none, true, 23, .binOp .mul 23 (.tmp 46) (.const (.int .u64 65536)) 23⟩,
      ⟨some 48, .none, true, 23, .binOp .add 23 (.tmp 42) (.tmp 47) 23⟩,
      ⟨some 49, .none, true, 0, .fieldAddr 69 (.tmp 1) 1⟩,
      ⟨some 50, .none, true, 23, .load 23 (.tmp 49)⟩,
      ⟨some 51, .none, true, 23, .binOp .mul 23 (.tmp 50) (.const (.int .u64 4294967296)) 23⟩,
      ⟨some 52, .none, true, 23, .binOp .add 23 (.tmp 48) (.tmp 51) 23⟩,
      ⟨some 2, .none, true, 23, .assign (.tmp 52)⟩])
  .ret))))
theorem t_reeveref22_First : FnT Try.prog f_reeveref22_First rc_reeveref22_First [.tmp 2] 1 := ⟨⟨[], Try.f39, _, Try.func39, rfl, by kernel_rfl, by kernel_rfl, by kernel_rfl, rfl, by decide⟩, by kernel_rfl⟩
/-- reeve/reeveref22.GetDesc -/
abbrev f_reeveref22_GetDesc : FuncId := 40
def rc_reeveref22_GetDescl0 : RCode :=
  (.seq
    (.seq
      (.region [⟨some 105, .none, true, 3, .move (.tmp 10)⟩,
        ⟨some 106, .none, true, 3, .move (.tmp 9)⟩,
        ⟨some 107, .none, true, 4, .binOp .lss 3 (.tmp 105) (.tmp 106) 3⟩])
    (.keep [1, 2, 4, 8, 9, 10, 107]
    (.cond (.tmp 107)
      .skip
      (.exit 0))))
  (.seq
    (.block 1
      (.seq
        (.seq
          (.region [⟨some 110, .none, true, 29, .move (.tmp 1)⟩,
            ⟨some 111, .none, true, 3, .move (.tmp 10)⟩,
            ⟨some 112, .none, true, 3, .binOp .mul 3 (.const (.int .i64 2)) (.tmp 111) 3⟩,
            ⟨some 113, .none, true, 3, .binOp .add 3 (.const (.int .i64 8)) (.tmp 112) 3⟩,
            ⟨some 114, .none, true, 0, .indexAddr 29 (.tmp 110) (.tmp 113)⟩,
            ⟨some 115, .none, true, 23, .load 23 (.tmp 114)⟩,
            ⟨some 116, .none, true, 4, .binOp .geq 23 (.tmp 115) (.const (.int .u64 2147483648)) 23⟩])
        (.keep [1, 2, 4, 8, 9, 10, 116]
        (.cond (.tmp 116)
          (.seq
            (.region [⟨some 117, .none, true, 69, .build 69 #[]⟩,
              ⟨none, .none, true, 0, .store 69 (.tmp 4) (.tmp 117)⟩,
              ⟨some 5, .none, true, 4, .assign (.const (.bool false))⟩])
          .ret)
          .skip)))
      (.regionD [⟨some 118, .none, 0, .fieldAddr 69 (.tmp 8) 4, 0, []⟩,
        ⟨some 119, .none, 67, .load 67 (.tmp 118), 1, []⟩,
        ⟨some 120, .none, 29, .move (.tmp 1), 2, []⟩,
        ⟨some 121, .none, 3, .move (.tmp 10), 3, []⟩,
        ⟨some 122, .none, 3, .binOp .mul 3 (.const (.int .i64 2)) (.tmp 121) 3, 4, []⟩,
        ⟨some 123, .none, 3, .binOp .add 3 (.const (.int .i64 8)) (.tmp 122) 3, 5, []⟩,
        ⟨some 124, .none, 0, .indexAddr 29 (.tmp 120) (.tmp 123), 6, []⟩,
        ⟨some 125, .none, 23, .load 23 (.tmp 124), 7, []⟩,
        ⟨some 126, .none, 3, .convert 23 3 (.tmp 125), 8, []⟩,
        ⟨some 127, .none, 29, .move (.tmp 1), 9, []⟩,
        ⟨some 128, .none, 3, .move (.tmp 10), 10, []⟩,
        ⟨some 129, .none, 3, .binOp .mul 3 (.const (.int .i64 2)) (.tmp 128) 3, 11, []⟩,
        ⟨some 130, .none, 3, .binOp .add 3 (.const (.int .i64 9)) (.tmp 129) 3, 12, []⟩,
        ⟨some 131, .none, 0, .indexAddr 29 (.tmp 127) (.tmp 130), 13, []⟩,
        ⟨some 132, .none, 23, .load 23 (.tmp 131), 14, []⟩,
        ⟨some 133, .none, 92, .build 92 #[(0, .tmp 126), (1, .tmp 132)], 15, []⟩,
        ⟨some 134, .none, 67, .buildSlice 67 1 #[(0, .tmp 133)], 16, [1]⟩,
        ⟨some 135, .none, 67, .call { callee := .builtin .append, args := #[.tmp 119, .tmp 134], argTypes := #[67, 67] }, 17, []⟩,
        ⟨some 136, .none, 0, .fieldAddr 69 (.tmp 8) 4, 18, []⟩,
        ⟨none, .none, 0, .store 67 (.tmp 136) (.tmp 135), 19, []⟩])))
  (.keep [1, 2, 4, 8, 9, 10]
  (.region [⟨some 108, .none, true, 3, .move (.tmp 10)⟩,
    ⟨some 109, .none, true, 3, .binOp .add 3 (.tmp 108) (.const (.int .i64 1)) 3⟩,
    ⟨some 10, .none, true, 3, .assign (.tmp 109)⟩]))))
def rc_reeveref22_GetDesc : RCode :=
  (.seq
    (.region [⟨some 2, .none, true, 0, .box 73 (.tmp 0)⟩,
      ⟨some 4, .none, true, 0, .alloc 69⟩,
      ⟨some 5, .none, true, 4, .assign (.const (.bool false))⟩])
  (.keep [1, 2, 4]
  (.seq
    (.region [⟨some 12, .none, true, 73, .load 73 (.tmp 2)⟩,
      ⟨some 13, .none, true, 90, .call { callee := .value (.func 55), args := #[.tmp 12, .const (.int .i64 0)], argTypes := #[73, 3] }⟩,
      ⟨some 11, .none, true, 90, .move (.tmp 13)⟩,
      ⟨some 14, .none, true, 3, .extract (.tmp 11) 0⟩,
      ⟨some 15, .none, true, 3, .extract (.tmp 11) 1⟩,
      ⟨some 6, .none, true, 3, .assign (.tmp 14)⟩,
      ⟨some 7, .none, true, 3, .assign (.tmp 15)⟩])
  (.keep [1, 2, 4, 7]
  (.seq
    (.seq
      (.region [⟨some 16, .none, true, 3, .move (.tmp 7)⟩,
        ⟨some 17, .none, true, 4, .binOp .eql 3 (.tmp 16) (.const (.int .i64 0)) 3⟩,
        ⟨some 18, .none, true, 4, .move (.tmp 17)⟩,
        ⟨some 19, .some 18 false, true, 29, .move (.tmp 1)⟩,
        ⟨some 20, .some 18 false, true, 3, .call { callee := .builtin .len, args := #[.tmp 19], argTypes := #[29] }⟩,
        ⟨some 21, .some 18 false, true, 3, .move (.tmp 7)⟩,
        ⟨some 22, .some 18 false, true, 4, .binOp .neq 3 (.tmp 20) (.tmp 21) 3⟩,
        ⟨some 23, .none, true, 4, .pick (.tmp 18) (.const (.bool true)) (.tmp 22)⟩])
    (.keep [1, 2, 4, 23]
    (.cond (.tmp 23)
      (.seq
        (.region [⟨some 24, .none, true, 69, .build 69 #[]⟩,
          ⟨none, .none, true, 0, .store 69 (.tmp 4) (.tmp 24)⟩,
          ⟨some 5, .none, true, 4, .assign (.const (.bool false))⟩])
      .ret)
      .skip)))
  (.seq
    (.seq
      (.region [⟨some 25, .none, true, 29, .move (.tmp 1)⟩,
        ⟨some 26, .none, true, 0, .indexAddr 29 (.tmp 25) (.const (.int .i64 0))⟩,
        ⟨some 27, .none, true, 23, .load 23 (.tmp 26)⟩,
        ⟨some 28, .none, true, 4, .binOp .eql 23 (.tmp 27) (.const (.int .u64 0)) 23⟩])
    (.keep [1, 2, 4, 28]
    (.cond (.tmp 28)
      (.seq
        (.regionD [⟨some 29, .none, 69, .build 69 #[], 0, []⟩,
          ⟨some 30, .none, 29, .move (.tmp 1), 1, []⟩,
          ⟨some 31, .none, 0, .indexAddr 29 (.tmp 30) (.const (.int .i64 7)), 2, []⟩,
          ⟨some 32, .none, 23, .load 23 (.tmp 31), 3, []⟩,
          ⟨some 33, .none, 4, .binOp .eql 23 (.tmp 32) (.const (.int .u64 0)) 23, 4, []⟩,
          ⟨none, .none, 0, .store 69 (.tmp 4) (.tmp 29), 5, [3]⟩,
          ⟨some 5, .none, 4, .assign (.tmp 33), 6, []⟩])
      .ret)
      .skip)))
  (.seq
    (.regionD [⟨some 34, .none, 29, .move (.tmp 1), 0, []⟩,
      ⟨some 35, .none, 0, .indexAddr 29 (.tmp 34) (.const (.int .i64 0)), 1, []⟩,
      ⟨some 36, .none, 23, .load 23 (.tmp 35), 2, []⟩,
      ⟨some 37, .none, 23, .binOp .rem 23 (.tmp 36) (.const (.int .u64 256)) 23, 3, []⟩,
      ⟨some 38, .none, 3, .convert 23 3 (.tmp 37), 4, []⟩,
      ⟨some 39, .none, 29, .move (.tmp 1), 5, []⟩,
      ⟨some 40, .none, 0, .indexAddr 29 (.tmp 39) (.const (.int .i64 0)), 6, []⟩,
      ⟨some 41, .none, 23, .load 23 (.tmp 40), 7, []⟩,
      ⟨some 42, .none, 23, .binOp .quo 23 (.tmp 41) (.const (.int .u64 4294967296)) 23, 8, []⟩,
      ⟨some 43, .none, 29, .move (.tmp 1), 9, []⟩,
      ⟨some 44, .none, 0, .indexAddr 29 (.tmp 43) (.const (.int .i64 1)), 10, []⟩,
      ⟨some 45, .none, 23, .load 23 (.tmp 44), 11, []⟩,
      ⟨some 46, .none, 29, .move (.tmp 1), 12, []⟩,
      ⟨some 47, .none, 0, .indexAddr 29 (.tmp 46) (.const (.int .i64 2)), 13, []⟩,
      ⟨some 48, .none, 23, .load 23 (.tmp 47), 14, []⟩,
      ⟨some 49, .none, 29, .move (.tmp 1), 15, []⟩,
      ⟨some 50, .none, 0, .indexAddr 29 (.tmp 49) (.const (.int .i64 3)), 16, []⟩,
      ⟨some 51, .none, 23, .load 23 (.tmp 50), 17, []⟩,
      ⟨some 52, .none, 29, .move (.tmp 1), 18, []⟩,
      ⟨some 53, .none, 0, .indexAddr 29 (.tmp 52) (.const (.int .i64 4)), 19, []⟩,
      ⟨some 54, .none, 23, .load 23 (.tmp 53), 20, []⟩,
      ⟨some 55, .none, 24, .build 24 #[(0, .tmp 45), (1, .tmp 48), (2, .tmp 51), (3, .tmp 54)], 21, []⟩,
      ⟨some 56, .none, 69, .build 69 #[(0, .tmp 38), (1, .tmp 42), (2, .tmp 55)], 22, []⟩,
      ⟨some 8, .none, 0, .alloc 69, 23, [2, 7, 11, 14, 17, 20]⟩,
      ⟨none, .none, 0, .store 69 (.tmp 8) (.tmp 56), 24, []⟩])
  (.keep [1, 2, 4, 8]
  (.seq
    (.region [⟨some 57, .none, true, 29, .move (.tmp 1)⟩,
      ⟨some 58, .none, true, 0, .indexAddr 29 (.tmp 57) (.const (.int .i64 0))⟩,
      ⟨some 59, .none, true, 23, .load 23 (.tmp 58)⟩,
      ⟨some 60, .none, true, 23, .binOp .quo 23 (.tmp 59) (.const (.int .u64 256)) 23⟩,
      ⟨some 61, .none, true, 23, .binOp .rem 23 (.tmp 60) (.const (.int .u64 256)) 23⟩,
      ⟨some 62, .none, true, 52, .convert 23 52 (.tmp 61)⟩,
      ⟨some 63, .none, true, 0, .fieldAddr 69 (.tmp 8) 3⟩,
      ⟨some 64, .none, true, 0, .fieldAddr 66 (.tmp 63) 0⟩,
      ⟨none, .none, true, 0, .store 52 (.tmp 64) (.tmp 62)⟩])
  (.keep [1, 2, 4, 8]
  (.seq
    (.region [⟨some 65, .none, true, 29, .move (.tmp 1)⟩,
      ⟨some 66, .none, true, 0, .indexAddr 29 (.tmp 65) (.const (.int .i64 0))⟩,
      ⟨some 67, .none, true, 23, .load 23 (.tmp 66)⟩,
      ⟨some 68, .none, true, 23, .binOp .quo 23 (.tmp 67) (.const (.int .u64 65536)) 23⟩,
      ⟨some 69, .none, true, 23, .binOp .rem 23 (.tmp 68) (.const (.int .u64 65536)) 23⟩,
      ⟨some 70, .none, true, 3, .convert 23 3 (.tmp 69)⟩,
      ⟨some 9, .none, true, 3, .assign (.tmp 70)⟩])
  (.keep [1, 2, 4, 8, 9]
  (.seq
    (.seq
      (.region [⟨some 71, .none, true, 3, .move (.tmp 9)⟩,
        ⟨some 72, .none, true, 4, .binOp .gtr 3 (.tmp 71) (.const (.int .i64 600)) 3⟩,
        ⟨some 73, .none, true, 4, .move (.tmp 72)⟩,
        ⟨some 74, .some 73 false, true, 29, .move (.tmp 1)⟩,
        ⟨some 75, .some 73 false, true, 0, .indexAddr 29 (.tmp 74) (.const (.int .i64 7))⟩,
        ⟨some 76, .some 73 false, true, 23, .load 23 (.tmp 75)⟩,
        ⟨some 77, .some 73 false, true, 4, .binOp .neq 23 (.tmp 76) (.const (.int .u64 0)) 23⟩,
        ⟨some 78, .none, true, 4, .pick (.tmp 73) (.const (.bool true)) (.tmp 77)⟩,
        ⟨some 79, .none, true, 4, .move (.tmp 78)⟩,
        ⟨some 80, .some 79 false, true, 0, .fieldAddr 69 (.tmp 8) 0⟩,
        ⟨some 81, .some 79 false, true, 3, .load 3 (.tmp 80)⟩,
        ⟨some 82, .some 79 false, true, 4, .binOp .neq 3 (.tmp 81) (.const (.int .i64 1)) 3⟩,
        ⟨some 83, .some 79 false, true, 4, .move (.tmp 82)⟩,
        ⟨some 84, .some 83 true, true, 29, .move (.tmp 1)⟩,
        ⟨some 85, .some 83 true, true, 0, .indexAddr 29 (.tmp 84) (.const (.int .i64 6))⟩,
        ⟨some 86, .some 83 true, true, 23, .load 23 (.tmp 85)⟩,
        ⟨some 87, .some 83 true, true, 4, .binOp .geq 23 (.tmp 86) (.const (.int .u64 2147483648)) 23⟩,
        ⟨some 88, .some 79 false, true, 4, .pick (.tmp 83) (.tmp 87) (.const (.bool false))⟩,
        ⟨some 89, .none, true, 4, .pick (.tmp 79) (.const (.bool true)) (.tmp 88)⟩])
    (.keep [1, 2, 4, 8, 9, 89]
    (.cond (.tmp 89)
      (.seq
        (.region [⟨some 90, .none, true, 69, .build 69 #[]⟩,
          ⟨none, .none, true, 0, .store 69 (.tmp 4) (.tmp 90)⟩,
          ⟨some 5, .none, true, 4, .assign (.const (.bool false))⟩])
      .ret)
      .skip)))
  (.seq
    (.seq
      (.region [⟨some 91, .none, true, 0, .fieldAddr 69 (.tmp 8) 0⟩,
        ⟨some 92, .none, true, 3, .load 3 (.tmp 91)⟩,
        ⟨some 93, .none, true, 4, .binOp .neq 3 (.tmp 92) (.const (.int .i64 1)) 3⟩])
    (.keep [1, 2, 4, 8, 9, 93]
    (.cond (.tmp 93)
      (.regionD [⟨some 94, .none, 29, .move (.tmp 1), 0, []⟩,
        ⟨some 95, .none, 0, .indexAddr 29 (.tmp 94) (.const (.int .i64 5)), 1, []⟩,
        ⟨some 96, .none, 23, .load 23 (.tmp 95), 2, []⟩,
        ⟨some 97, .none, 29, .move (.tmp 1), 3, []⟩,
        ⟨some 98, .none, 0, .indexAddr 29 (.tmp 97) (.const (.int .i64 6)), 4, []⟩,
        ⟨some 99, .none, 23, .load 23 (.tmp 98), 5, []⟩,
        ⟨some 100, .none, 3, .convert 23 3 (.tmp 99), 6, []⟩,
        ⟨some 101, .none, 0, .fieldAddr 69 (.tmp 8) 3, 7, []⟩,
        ⟨some 102, .none, 0, .fieldAddr 66 (.tmp 101) 1, 8, []⟩,
        ⟨none, .none, 0, .store 23 (.tmp 102) (.tmp 96), 9, [5]⟩,
        ⟨some 103, .none, 0, .fieldAddr 69 (.tmp 8) 3, 10, []⟩,
        ⟨some 104, .none, 0, .fieldAddr 66 (.tmp 103) 2, 11, []⟩,
        ⟨none, .none, 0, .store 3 (.tmp 104) (.tmp 100), 12, []⟩])
      .skip)))
  (.seq
    (.seq
      (.region [⟨some 10, .none, true, 3, .assign (.const (.int .i64 0))⟩])
    (.keep [1, 2, 4, 8, 9, 10]
    (.block 0
      (.loop [1, 2, 4, 8, 9, 10] rc_reeveref22_GetDescl0))))
  (.seq
    (.seq
      (.region [⟨some 137, .none, false, 73, .load 73 (.tmp 2)⟩,
        ⟨some 138, .none, false, 69, .load 69 (.tmp 8)⟩,
        ⟨some 139, .none, true, 4, .call { callee := .value (.func 38), args := #[.tmp 137, .tmp 138], argTypes := #[73, 69] }⟩,
        ⟨some 140, .none, true, 4, .unOp .not 4 (.tmp 139)⟩,
        ⟨some 141, .none, true, 4, .move (.tmp 140)⟩,
        ⟨some 142, .some 141 false, false, 69, .load 69 (.tmp 8)⟩,
        ⟨some 143, .some 141 false, false, 23, .call { callee := .value (.func 39), args := #[.tmp 142], argTypes := #[69] }⟩,
        ⟨some 144, .some 141 false, false, 29, .move (.tmp 1)⟩,
        ⟨some 145, .some 141 false, false, 0, .indexAddr 29 (.tmp 144) (.const (.int .i64 0))⟩,
        ⟨some 146, .some 141 false, false, 23, .load 23 (.tmp 145)⟩,
        ⟨some 147, .some 141 false, true, 4, .binOp .neq 23 (.tmp 143) (.tmp 146) 23⟩,
        ⟨some 148, .none, true, 4, .pick (.tmp 141) (.const (.bool true)) (.tmp 147)⟩])
    (.keep [4, 8, 148]
    (.cond (.tmp 148)
      (.seq
        (.region [⟨some 149, .none, true, 69, .build 69 #[]⟩,
          ⟨none, .none, true, 0, .store 69 (.tmp 4) (.tmp 149)⟩,
          ⟨some 5, .none, true, 4, .assign (.const (.bool false))⟩])
      .ret)
      .skip)))
  (.seq
    (.region [⟨some 150, .none, true, 69, .load 69 (.tmp 8)⟩,
      ⟨none, .none, true, 0, .store 69 (.tmp 4) (.tmp 150)⟩,
      ⟨some 5, .none, true, 4, .assign (.const (.bool true))⟩])
  .ret)))))))))))))))))
theorem t_reeveref22_GetDesc : FnT Try.prog f_reeveref22_GetDesc rc_reeveref22_GetDesc [.cell 4 69, .tmp 5] 2 := ⟨⟨[5, 6, 12, 18], Try.f40, _, Try.func40, rfl, by kernel_rfl, by kernel_rfl, by kernel_rfl, rfl, by decide⟩, by kernel_rfl⟩
/-- reeve/tag.Put -/
abbrev f_tag_Put : FuncId := 43
def rc_tag_Putl0 : RCode :=
  (.seq
    (.region [⟨some 22, .none, true, 0, .binOp .lss 3 (.tmp 21) (.tmp 20) 3⟩])
  (.keep [1, 6, 19, 20, 21, 22]
  (.seq
    (.cond (.tmp 22)
      .skip
      (.exit 0))
  (.keep [1, 6, 19, 20, 21]
  (.seq
    (.block 1
      (.seq
        (.region [⟨some 23, .none, true, 3, .move (.tmp 21)⟩,
          ⟨some 24, .none, true, 0, .indexAddr 85 (.tmp 19) (.tmp 21)⟩,
          ⟨some 25, .none, true, 100, .load 100 (.tmp 24)⟩,
          ⟨some 8, .none, true, 0, .alloc 100⟩,
          ⟨some 7, .none, true, 3, .assign (.tmp 23)⟩,
          ⟨none, .none, true, 0, .store 100 (.tmp 8) (.tmp 25)⟩])
      (.keep [1, 6, 7, 8, 19, 20, 21]
      (.seq
        (.seq
          (.region [⟨some 26, .none, false, 29, .move (.tmp 1)⟩,
            ⟨some 27, .none, false, 3, .move (.tmp 7)⟩,
            ⟨some 28, .none, false, 0, .indexAddr 29 (.tmp 26) (.tmp 27)⟩,
            ⟨some 29, .none, false, 23, .load 23 (.tmp 28)⟩,
            ⟨some 30, .none, false, 100, .load 100 (.tmp 8)⟩,
            ⟨some 31, .none, false, 23, .call { callee := .value (.func 59), args := #[.tmp 30], argTypes := #[100] }⟩,
            ⟨some 32, .none, false, 0, .fieldAddr 100 (.tmp 8) 0⟩,
            ⟨some 33, .none, false, 3, .load 3 (.tmp 32)⟩,
            ⟨some 34, .none, false, 23, .binOp .shr 23 (.tmp 31) (.tmp 33) 3⟩,
            ⟨some 35, .none, true, 4, .binOp .gtr 23 (.tmp 29) (.tmp 34) 23⟩])
        (.keep [1, 6, 7, 8, 19, 20, 21, 35]
        (.cond (.tmp 35)
          (.seq
            (.region [⟨some 4, .none, true, 23, .assign (.const (.int .u64 0))⟩,
              ⟨some 5, .none, true, 4, .assign (.const (.bool false))⟩])
          .ret)
          .skip)))
      (.region [⟨some 36, .none, false, 23, .move (.tmp 6)⟩,
        ⟨some 37, .none, false, 29, .move (.tmp 1)⟩,
        ⟨some 38, .none, false, 3, .move (.tmp 7)⟩,
        ⟨some 39, .none, false, 0, .indexAddr 29 (.tmp 37) (.tmp 38)⟩,
        ⟨some 40, .none, false, 23, .load 23 (.tmp 39)⟩,
        ⟨some 41, .none, false, 0, .fieldAddr 100 (.tmp 8) 0⟩,
        ⟨some 42, .none, false, 3, .load 3 (.tmp 41)⟩,
        ⟨some 43, .none, true, 23, .binOp .shl 23 (.tmp 40) (.tmp 42) 3⟩,
        ⟨some 44, .none, true, 23, .binOp .or 23 (.tmp 36) (.tmp 43) 23⟩,
        ⟨some 6, .none, true, 23, .assign (.tmp 44)⟩])))))
  (.keep [1, 6, 19, 20, 21]
  (.region [⟨some 45, .none, true, 3, .binOp .add 3 (.tmp 21) (.const (.int .i64 1)) 3⟩,
    ⟨some 21, .none, true, 3, .move (.tmp 45)⟩])))))))
def rc_tag_Put : RCode :=
  (.seq
    (.region [⟨some 4, .none, true, 23, .assign (.const (.int .u64 0))⟩,
      ⟨some 5, .none, true, 4, .assign (.const (.bool false))⟩])
  (.keep [0, 1]
  (.seq
    (.seq
      (.region [⟨some 9, .none, true, 85, .move (.tmp 0)⟩,
        ⟨some 10, .none, true, 4, .call { callee := .value (.func 58), args := #[.tmp 9], argTypes := #[85] }⟩,
        ⟨some 11, .none, true, 4, .unOp .not 4 (.tmp 10)⟩,
        ⟨some 12, .none, true, 4, .move (.tmp 11)⟩,
        ⟨some 13, .some 12 false, true, 85, .move (.tmp 0)⟩,
        ⟨some 14, .some 12 false, true, 3, .call { callee := .builtin .len, args := #[.tmp 13], argTypes := #[85] }⟩,
        ⟨some 15, .some 12 false, true, 29, .move (.tmp 1)⟩,
        ⟨some 16, .some 12 false, true, 3, .call { callee := .builtin .len, args := #[.tmp 15], argTypes := #[29] }⟩,
        ⟨some 17, .some 12 false, true, 4, .binOp .neq 3 (.tmp 14) (.tmp 16) 3⟩,
        ⟨some 18, .none, true, 4, .pick (.tmp 12) (.const (.bool true)) (.tmp 17)⟩])
    (.keep [0, 1, 18]
    (.cond (.tmp 18)
      (.seq
        (.region [⟨some 4, .none, true, 23, .assign (.const (.int .u64 0))⟩,
          ⟨some 5, .none, true, 4, .assign (.const (.bool false))⟩])
      .ret)
      .skip)))
  (.seq
    (.region [⟨some 6, .none, true, 23, .assign (.const (.int .u64 0))⟩])
  (.keep [0, 1, 6]
  (.seq
    (.seq
      (.region [⟨some 19, .none, true, 85, .move (.tmp 0)⟩,
        ⟨some 20, .none, true, 3, .call { callee := .builtin .len, args := #[.tmp 19], argTypes := #[85] }⟩,
        ⟨some 21, .none, true, 3, .move (.const (.int .i64 0))⟩])
    (.keep [1, 6, 19, 20, 21]
    (.block 0
      (.loop [1, 6, 19, 20, 21] rc_tag_Putl0))))
  (.seq
    (.region [⟨some 46, .none, true, 23, .move (.tmp 6)⟩,
      ⟨some 4, .none, true, 23, .assign (.tmp 46)⟩,
      ⟨some 5, .none, true, 4, .assign (.const (.bool true))⟩])
  .ret)))))))
theorem t_tag_Put : FnT Try.prog f_tag_Put rc_tag_Put [.tmp 4, .tmp 5] 2 := ⟨⟨[], Try.f43, _, Try.func43, rfl, by kernel_rfl, by kernel_rfl, by kernel_rfl, rfl, by decide⟩, by kernel_rfl⟩
/-- reeve/tag.Get -/
abbrev f_tag_Get : FuncId := 46
def rc_tag_Getl0 : RCode :=
  (.seq
    (.region [⟨some 17, .none, true, 0, .binOp .lss 3 (.tmp 16) (.tmp 15) 3⟩])
  (.keep [0, 5, 14, 15, 16, 17]
  (.seq
    (.cond (.tmp 17)
      .skip
      (.exit 0))
  (.keep [0, 5, 14, 15, 16]
  (.seq
    (.block 1
      (.seq
        (.region [⟨some 18, .none, true, 0, .indexAddr 85 (.tmp 14) (.tmp 16)⟩,
          ⟨some 19, .none, true, 100, .load 100 (.tmp 18)⟩,
          ⟨some 7, .none, true, 0, .alloc 100⟩,
          ⟨none, .none, true, 0, .store 100 (.tmp 7) (.tmp 19)⟩])
      (.keep [0, 5, 7, 14, 15, 16]
      (.region [⟨some 20, .none, false, 29, .move (.tmp 5)⟩,
        ⟨some 21, .none, false, 23, .move (.tmp 0)⟩,
        ⟨some 22, .none, false, 100, .load 100 (.tmp 7)⟩,
        ⟨some 23, .none, false, 23, .call { callee := .value (.func 59), args := #[.tmp 22], argTypes := #[100] }⟩,
        ⟨some 24, .none, false, 23, .binOp .and 23 (.tmp 21) (.tmp 23) 23⟩,
        ⟨some 25, .none, false, 0, .fieldAddr 100 (.tmp 7) 0⟩,
        ⟨some 26, .none, false, 3, .load 3 (.tmp 25)⟩,
        ⟨some 27, .none, true, 23, .binOp .shr 23 (.tmp 24) (.tmp 26) 3⟩,
        ⟨some 28, .none, true, 29, .buildSlice 29 1 #[(0, .tmp 27)]⟩,
        ⟨some 29, .none, true, 29, .call { callee := .builtin .append, args := #[.tmp 20, .tmp 28], argTypes := #[29, 29] }⟩,
        ⟨some 5, .none, true, 29, .assign (.tmp 29)⟩]))))
  (.keep [0, 5, 14, 15, 16]
  (.region [⟨some 30, .none, true, 3, .binOp .add 3 (.tmp 16) (.const (.int .i64 1)) 3⟩,
    ⟨some 16, .none, true, 3, .move (.tmp 30)⟩])))))))
def rc_tag_Get : RCode :=
  (.seq
    (.region [⟨some 4, .none, true, 29, .assign (.const (.slice none 0 0))⟩])
  (.keep [0, 1]
  (.seq
    (.seq
      (.region [⟨some 8, .none, true, 85, .move (.tmp 1)⟩,
        ⟨some 9, .none, true, 4, .call { callee := .value (.func 58), args := #[.tmp 8], argTypes := #[85] }⟩,
        ⟨some 10, .none, true, 4, .unOp .not 4 (.tmp 9)⟩])
    (.keep [0, 1, 10]
    (.cond (.tmp 10)
      (.seq
        (.region [⟨some 4, .none, true, 29, .assign (.const (.slice none 0 0))⟩])
      .ret)
      .skip)))
  (.seq
    (.region [⟨some 11, .none, true, 85, .move (.tmp 1)⟩,
      ⟨some 12, .none, true, 3, .call { callee := .builtin .len, args := #[.tmp 11], argTypes := #[85] }⟩,
      ⟨some 13, .none, true, 29, .makeSlice 29 (.const (.int .i64 0)) (.tmp 12)⟩,
      ⟨some 5, .none, true, 29, .assign (.tmp 13)⟩])
  (.keep [0, 1, 5]
  (.seq
    (.seq
      (.region [⟨some 14, .none, true, 85, .move (.tmp 1)⟩,
        ⟨some 15, .none, true, 3, .call { callee := .builtin .len, args := #[.tmp 14], argTypes := #[85] }⟩,
        ⟨some 16, .none, true, 3, .move (.const (.int .i64 0))⟩])
    (.keep [0, 5, 14, 15, 16]
    (.block 0
      (.loop [0, 5, 14, 15, 16] rc_tag_Getl0))))
  (.seq
    (.region [⟨some 31, .none, true, 29, .move (.tmp 5)⟩,
      ⟨some 4, .none, true, 29, .assign (.tmp 31)⟩])
  .ret)))))))
theorem t_tag_Get : FnT Try.prog f_tag_Get rc_tag_Get [.tmp 4] 2 := ⟨⟨[], Try.f46, _, Try.func46, rfl, by kernel_rfl, by kernel_rfl, by kernel_rfl, rfl, by decide⟩, by kernel_rfl⟩
/-- reeve/wset.Good -/
abbrev f_wset_Good : FuncId := 50
def rc_wset_Goodl0 : RCode :=
  (.seq
    (.region [⟨some 22, .none, true, 0, .binOp .lss 3 (.tmp 21) (.tmp 20) 3⟩])
  (.keep [2, 5, 19, 20, 21, 22]
  (.seq
    (.cond (.tmp 22)
      .skip
      (.exit 0))
  (.keep [2, 5, 19, 20, 21]
  (.seq
    (.block 1
      (.seq
        (.region [⟨some 23, .none, true, 0, .indexAddr 55 (.tmp 19) (.tmp 21)⟩,
          ⟨some 24, .none, true, 60, .load 60 (.tmp 23)⟩,
          ⟨some 7, .none, true, 0, .alloc 60⟩,
          ⟨none, .none, true, 0, .store 60 (.tmp 7) (.tmp 24)⟩])
      (.keep [2, 5, 7, 19, 20, 21]
      (.seq
        (.seq
          (.region [⟨some 25, .none, true, 0, .fieldAddr 60 (.tmp 7) 0⟩,
            ⟨some 26, .none, true, 3, .load 3 (.tmp 25)⟩,
            ⟨some 27, .none, false, 3, .move (.tmp 5)⟩,
            ⟨some 28, .none, true, 4, .binOp .leq 3 (.tmp 26) (.tmp 27) 3⟩,
            ⟨some 29, .none, true, 4, .move (.tmp 28)⟩,
            ⟨some 30, .some 29 false, false, 0, .fieldAddr 60 (.tmp 7) 0⟩,
            ⟨some 31, .some 29 false, false, 3, .load 3 (.tmp 30)⟩,
            ⟨some 32, .some 29 false, false, 49, .load 49 (.tmp 2)⟩,
            ⟨some 33, .some 29 false, false, 3, .call { callee := .value (.func 62), args := #[.tmp 32], argTypes := #[49] }⟩,
            ⟨some 34, .some 29 false, true, 4, .binOp .geq 3 (.tmp 31) (.tmp 33) 3⟩,
            ⟨some 35, .none, true, 4, .pick (.tmp 29) (.const (.bool true)) (.tmp 34)⟩])
        (.keep [2, 7, 19, 20, 21, 35]
        (.cond (.tmp 35)
          (.seq
            (.region [⟨some 4, .none, true, 4, .assign (.const (.bool false))⟩])
          .ret)
          .skip)))
      (.region [⟨some 36, .none, true, 0, .fieldAddr 60 (.tmp 7) 0⟩,
        ⟨some 37, .none, true, 3, .load 3 (.tmp 36)⟩,
        ⟨some 5, .none, true, 3, .assign (.tmp 37)⟩])))))
  (.keep [2, 5, 19, 20, 21]
  (.region [⟨some 38, .none, true, 3, .binOp .add 3 (.tmp 21) (.const (.int .i64 1)) 3⟩,
    ⟨some 21, .none, true, 3, .move (.tmp 38)⟩])))))))
def rc_wset_Good : RCode :=
  (.seq
    (.region [⟨some 2, .none, true, 0, .box 49 (.tmp 0)⟩,
      ⟨some 4, .none, true, 4, .assign (.const (.bool false))⟩])
  (.keep [1, 2]
  (.seq
    (.seq
      (.region [⟨some 8, .none, true, 49, .load 49 (.tmp 2)⟩,
        ⟨some 9, .none, true, 4, .call { callee := .value (.func 60), args := #[.tmp 8], argTypes := #[49] }⟩,
        ⟨some 10, .none, true, 4, .unOp .not 4 (.tmp 9)⟩,
        ⟨some 11, .none, true, 4, .move (.tmp 10)⟩,
        ⟨some 12, .some 11 false, true, 55, .move (.tmp 1)⟩,
        ⟨some 13, .some 11 false, true, 3, .call { callee := .builtin .len, args := #[.tmp 12], argTypes := #[55] }⟩,
        ⟨some 14, .some 11 false, true, 4, .binOp .gtr 3 (.tmp 13) (.const (.int .i64 600)) 3⟩,
        ⟨some 15, .none, true, 4, .pick (.tmp 11) (.const (.bool true)) (.tmp 14)⟩])
    (.keep [1, 2, 15]
    (.cond (.tmp 15)
      (.seq
        (.region [⟨some 4, .none, true, 4, .assign (.const (.bool false))⟩])
      .ret)
      .skip)))
  (.seq
    (.region [⟨some 16, .none, true, 49, .load 49 (.tmp 2)⟩,
      ⟨some 17, .none, true, 3, .call { callee := .value (.func 61), args := #[.tmp 16, .const (.int .i64 0)], argTypes := #[49, 3] }⟩,
      ⟨some 18, .none, true, 3, .binOp .sub 3 (.tmp 17) (.const (.int .i64 1)) 3⟩,
      ⟨some 5, .none, true, 3, .assign (.tmp 18)⟩])
  (.keep [1, 2, 5]
  (.seq
    (.seq
      (.region [⟨some 19, .none, true, 55, .move (.tmp 1)⟩,
        ⟨some 20, .none, true, 3, .call { callee := .builtin .len, args := #[.tmp 19], argTypes := #[55] }⟩,
        ⟨some 21, .none, true, 3, .move (.const (.int .i64 0))⟩])
    (.keep [2, 5, 19, 20, 21]
    (.block 0
      (.loop [2, 5, 19, 20, 21] rc_wset_Goodl0))))
  (.seq
    (.region [⟨some 4, .none, true, 4, .assign (.const (.bool true))⟩])
  .ret)))))))
theorem t_wset_Good : FnT Try.prog f_wset_Good rc_wset_Good [.tmp 4] 2 := ⟨⟨[], Try.f50, _, Try.func50, rfl, by kernel_rfl, by kernel_rfl, by kernel_rfl, rfl, by decide⟩, by kernel_rfl⟩
/-- reeve/geo.Desc -/
abbrev f_geo_Desc : FuncId := 51
def rc_geo_Desc : RCode :=
  (.seq
    (.region [⟨some 2, .none, true, 0, .box 49 (.tmp 0)⟩,
      ⟨some 4, .none, true, 3, .assign (.const (.int .i64 0))⟩,
      ⟨some 5, .none, true, 3, .assign (.const (.int .i64 0))⟩])
  (.keep [1, 2]
  (.seq
    (.seq
      (.region [⟨some 6, .none, true, 49, .load 49 (.tmp 2)⟩,
        ⟨some 7, .none, true, 4, .call { callee := .value (.func 60), args := #[.tmp 6], argTypes := #[49] }⟩,
        ⟨some 8, .none, true, 4, .unOp .not 4 (.tmp 7)⟩,
        ⟨some 9, .none, true, 4, .move (.tmp 8)⟩,
        ⟨some 10, .some 9 false, true, 3, .move (.tmp 1)⟩,
        ⟨some 11, .some 9 false, true, 0, .fieldAddr 49 (.tmp 2) 0⟩,
        ⟨some 12, .some 9 false, true, 3, .load 3 (.tmp 11)⟩,
        ⟨some 13, .some 9 false, true, 3, .binOp .sub 3 (.tmp 12) (.const (.int .i64 1)) 3⟩,
        ⟨some 14, .some 9 false, true, 4, .call { callee := .value (.func 63), args := #[.tmp 10, .const (.int .i64 0), .tmp 13], argTypes := #[3, 3, 3] }⟩,
        ⟨some 15, .some 9 false, true, 4, .unOp .not 4 (.tmp 14)⟩,
        ⟨some 16, .none, true, 4, .pick (.tmp 9) (.const (.bool true)) (.tmp 15)⟩])
    (.keep [1, 16]
    (.cond (.tmp 16)
      (.seq
        (.region [⟨some 4, .none, true, 3, .assign (.const (.int .i64 0))⟩,
          ⟨some 5, .none, true, 3, .assign (.const (.int .i64 0))⟩])
      .ret)
      .skip)))
  (.seq
    (.region [⟨some 17, .none, true, 3, .move (.tmp 1)⟩,
      ⟨some 18, .none, true, 3, .binOp .mul 3 (.tmp 17) (.const (.int .i64 1208)) 3⟩,
      ⟨some 19, .none, true, 3, .binOp .add 3 (.const (.int .i64 16)) (.tmp 18) 3⟩,
      ⟨some 4, .none, true, 3, .assign (.tmp 19)⟩,
      ⟨some 5, .none, true, 3, .assign (.const (.int .i64 1208))⟩])
  .ret))))
theorem t_geo_Desc : FnT Try.prog f_geo_Desc rc_geo_Desc [.tmp 4, .tmp 5] 2 := ⟨⟨[], Try.f51, _, Try.func51, rfl, by kernel_rfl, by kernel_rfl, by kernel_rfl, rfl, by decide⟩, by kernel_rfl⟩
/-- reeve/opd.fields -/
abbrev f_opd_fields : FuncId := 52
def rc_opd_fields : RCode :=
  (.seq
    (.region [⟨some 0, .none, true, 85, .assign (.const (.slice none 0 0))⟩])
  (.keep []
  (.seq
    (.region [⟨some 1, .none, true, 100, .build 100 #[(0, .const (.int .i64 0)), (1, .const (.int .i64 8))]⟩,
      ⟨some 2, .none, true, 100, .build 100 #[(0, .const (.int .i64 8)), (1, .const (.int .i64 8))]⟩,
      ⟨some 3, .none, true, 100, .build 100 #[(0, .const (.int .i64 16)), (1, .const (.int .i64 16))]⟩,
      ⟨some 4, .none, true, 100, .build 100 #[(0, .const (.int .i64 32)), (1, .const (.int .i64 32))]⟩,
      ⟨some 5, .none, true, 85, .buildSlice 85 4 #[(0, .tmp 1), (1, .tmp 2), (2, .tmp 3), (3, .tmp 4)]⟩,
      ⟨some 0, .none, true, 85, .assign (.tmp 5)⟩])
  .ret)))
theorem t_opd_fields : FnT Try.prog f_opd_fields rc_opd_fields [.tmp 0] 0 := ⟨⟨[], Try.f52, _, Try.func52, rfl, by kernel_rfl, by kernel_rfl, by kernel_rfl, rfl, by decide⟩, by kernel_rfl⟩
/-- reeve/reevelaw24.ownW -/
abbrev f_reevelaw24_ownW : FuncId := 53
def rc_reevelaw24_ownWl0 : RCode :=
  (.seq
    (.seq
      (.region [⟨some 5, .none, true, 3, .move (.tmp 4)⟩,
        ⟨some 6, .none, true, 55, .move (.tmp 0)⟩,
        ⟨some 7, .none, true, 3, .call { callee := .builtin .len, args := #[.tmp 6], argTypes := #[55] }⟩,
        ⟨some 8, .none, true, 4, .binOp .lss 3 (.tmp 5) (.tmp 7) 3⟩])
    (.keep [0, 3, 4, 8]
    (.cond (.tmp 8)
      .skip
      (.exit 0))))
  (.seq
    (.block 1
      (.region [⟨some 11, .none, false, 67, .move (.tmp 3)⟩,
        ⟨some 12, .none, false, 55, .move (.tmp 0)⟩,
        ⟨some 13, .none, false, 3, .move (.tmp 4)⟩,
        ⟨some 14, .none, false, 0, .indexAddr 55 (.tmp 12) (.tmp 13)⟩,
        ⟨some 15, .none, false, 0, .fieldAddr 60 (.tmp 14) 0⟩,
        ⟨some 16, .none, false, 3, .load 3 (.tmp 15)⟩,
        ⟨some 17, .none, false, 55, .move (.tmp 0)⟩,
        ⟨some 18, .none, false, 3, .move (.tmp 4)⟩,
        ⟨some 19, .none, false, 0, .indexAddr 55 (.tmp 17) (.tmp 18)⟩,
        ⟨some 20, .none, false, 0, .fieldAddr 60 (.tmp 19) 1⟩,
        ⟨some 21, .none, false, 23, .load 23 (.tmp 20)⟩,
        ⟨some 22, .none, true, 92, .build 92 #[(0, .tmp 16), (1, .tmp 21)]⟩,
        ⟨some 23, .none, true, 67, .buildSlice 67 1 #[(0, .tmp 22)]⟩,
        ⟨some 24, .none, true, 67, .call { callee := .builtin .append, args := #[.tmp 11, .tmp 23], argTypes := #[67, 67] }⟩,
        ⟨some 3, .none, true, 67, .assign (.tmp 24)⟩]))
  (.keep [0, 3, 4]
  (.region [⟨some 9, .none, true, 3, .move (.tmp 4)⟩,
    ⟨some 10, .none, true, 3, .binOp .add 3 (.tmp 9) (.const (.int .i64 1)) 3⟩,
    ⟨some 4, .none, true, 3, .assign (.tmp 10)⟩]))))
def rc_reevelaw24_ownW : RCode :=
  (.seq
    (.region [⟨some 2, .none, true, 67, .assign (.const (.slice none 0 0))⟩])
  (.keep [0]
  (.seq
    (.region [⟨some 3, .none, true, 67, .assign (.const (.slice none 0 0))⟩])
  (.keep [0, 3]
  (.seq
    (.seq
      (.region [⟨some 4, .none, true, 3, .assign (.const (.int .i64 0))⟩])
    (.keep [0, 3, 4]
    (.block 0
      (.loop [0, 3, 4] rc_reevelaw24_ownWl0))))
  (.seq
    (.region [⟨some 25, .none, true, 67, .move (.tmp 3)⟩,
      ⟨some 2, .none, true, 67, .assign (.tmp 25)⟩])
  .ret))))))
theorem t_reevelaw24_ownW : FnT Try.prog f_reevelaw24_ownW rc_reevelaw24_ownW [.tmp 2] 1 := ⟨⟨[], Try.f53, _, Try.func53, rfl, by kernel_rfl, by kernel_rfl, by kernel_rfl, rfl, by decide⟩, by kernel_rfl⟩
/-- slices.Max[[]uint64,uint64] -/
abbrev f_slices_Max_S_uint64_uint64 : FuncId := 54
def rc_slices_Max_S_uint64_uint64l0 : RCode :=
  (.seq
    (.seq
      (.region [⟨some 12, .none, true, 3, .move (.tmp 4)⟩,
        ⟨some 13, .none, true, 29, .move (.tmp 0)⟩,
        ⟨some 14, .none, true, 3, .call { callee := .builtin .len, args := #[.tmp 13], argTypes := #[29] }⟩,
        ⟨some 15, .none, true, 4, .binOp .lss 3 (.tmp 12) (.tmp 14) 3⟩])
    (.keep [0, 3, 4, 15]
    (.cond (.tmp 15)
      .skip
      (.exit 0))))
  (.seq
    (.block 1
      (.region [⟨some 18, .none, true, 23, .move (.tmp 3)⟩,
        ⟨some 19, .none, true, 29, .move (.tmp 0)⟩,
        ⟨some 20, .none, true, 3, .move (.tmp 4)⟩,
        ⟨some 21, .none, true, 0, .indexAddr 29 (.tmp 19) (.tmp 20)⟩,
        ⟨some 22, .none, true, 23, .load 23 (.tmp 21)⟩,
        ⟨some 23, .none, true, 23, .call { callee := .builtin .max, args := #[.tmp 18, .tmp 22], argTypes := #[23, 23] }⟩,
        ⟨some 3, .none, true, 23, .assign (.tmp 23)⟩]))
  (.keep [0, 3, 4]
  (.region [⟨some 16, .none, true, 3, .move (.tmp 4)⟩,
    ⟨some 17, .none, true, 3, .binOp .add 3 (.tmp 16) (.const (.int .i64 1)) 3⟩,
    ⟨some 4, .none, true, 3, .assign (.tmp 17)⟩]))))
def rc_slices_Max_S_uint64_uint64 : RCode :=
  (.seq
    (.region [⟨some 2, .none, true, 23, .assign (.const (.int .u64 0))⟩])
  (.keep [0]
  (.seq
    (.seq
      (.region [⟨some 5, .none, true, 29, .move (.tmp 0)⟩,
        ⟨some 6, .none, true, 3, .call { callee := .builtin .len, args := #[.tmp 5], argTypes := #[29] }⟩,
        ⟨some 7, .none, true, 4, .binOp .lss 3 (.tmp 6) (.const (.int .i64 1)) 3⟩])
    (.keep [0, 7]
    (.cond (.tmp 7)
      (.region [⟨some 8, .none, true, 20, .makeInterface 9 (.const (.string { data := #[115, 108, 105, 99, 101, 115, 46, 77, 97, 120, 58, 32, 101, 109, 112, 116, 121, 32, 108, 105, 115, 116] }))⟩,
        ⟨none, .none, true, 0, .panic (.tmp 8)⟩])
      .skip)))
  (.seq
    (.region [⟨some 9, .none, true, 29, .move (.tmp 0)⟩,
      ⟨some 10, .none, true, 0, .indexAddr 29 (.tmp 9) (.const (.int .i64 0))⟩,
      ⟨some 11, .none, true, 23, .load 23 (.tmp 10)⟩,
      ⟨some 3, .none, true, 23, .assign (.tmp 11)⟩])
  (.keep [0, 3]
  (.seq
    (.seq
      (.region [⟨some 4, .none, true, 3, .assign (.const (.int .i64 1))⟩])
    (.keep [0, 3, 4]
    (.block 0
      (.loop [0, 3, 4] rc_slices_Max_S_uint64_uint64l0))))
  (.seq
    (.region [⟨some 24, .none, true, 23, .move (.tmp 3)⟩,
      ⟨some 2, .none, true, 23, .assign (.tmp 24)⟩])
  .ret)))))))
theorem t_slices_Max_S_uint64_uint64 : FnT Try.prog f_slices_Max_S_uint64_uint64 rc_slices_Max_S_uint64_uint64 [.tmp 2] 1 := ⟨⟨[], Try.f54, _, Try.func54, rfl, by kernel_rfl, by kernel_rfl, by kernel_rfl, rfl, by decide⟩, by kernel_rfl⟩
/-- reeve/reeveref1.Desc -/
abbrev f_reeveref1_Desc : FuncId := 55
def rc_reeveref1_Desc : RCode :=
  (.seq
    (.region [⟨some 2, .none, true, 0, .box 73 (.tmp 0)⟩,
      ⟨some 4, .none, true, 3, .assign (.const (.int .i64 0))⟩,
      ⟨some 5, .none, true, 3, .assign (.const (.int .i64 0))⟩])
  (.keep [1, 2]
  (.seq
    (.seq
      (.region [⟨some 6, .none, true, 73, .load 73 (.tmp 2)⟩,
        ⟨some 7, .none, true, 4, .call { callee := .value (.func 56), args := #[.tmp 6], argTypes := #[73] }⟩,
        ⟨some 8, .none, true, 4, .unOp .not 4 (.tmp 7)⟩,
        ⟨some 9, .none, true, 4, .move (.tmp 8)⟩,
        ⟨some 10, .some 9 false, true, 3, .move (.tmp 1)⟩,
        ⟨some 11, .some 9 false, true, 4, .binOp .lss 3 (.tmp 10) (.const (.int .i64 0)) 3⟩,
        ⟨some 12, .none, true, 4, .pick (.tmp 9) (.const (.bool true)) (.tmp 11)⟩,
        ⟨some 13, .none, true, 4, .move (.tmp 12)⟩,
        ⟨some 14, .some 13 false, true, 3, .move (.tmp 1)⟩,
        ⟨some 15, .some 13 false, true, 0, .fieldAddr 73 (.tmp 2) 0⟩,
        ⟨some 16, .some 13 false, true, 3, .load 3 (.tmp 15)⟩,
        ⟨some 17, .some 13 false, true, 4, .binOp .geq 3 (.tmp 14) (.tmp 16) 3⟩,
        ⟨some 18, .none, true, 4, .pick (.tmp 13) (.const (.bool true)) (.tmp 17)⟩])
    (.keep [1, 18]
    (.cond (.tmp 18)
      (.seq
        (.region [⟨some 4, .none, true, 3, .assign (.const (.int .i64 0))⟩,
          ⟨some 5, .none, true, 3, .assign (.const (.int .i64 0))⟩])
      .ret)
      .skip)))
  (.seq
    (.region [⟨some 19, .none, true, 3, .move (.tmp 1)⟩,
      ⟨some 20, .none, true, 3, .call { callee := .value (.func 64), args := #[], argTypes := #[] }⟩,
      ⟨some 21, .none, true, 3, .binOp .mul 3 (.tmp 19) (.tmp 20) 3⟩,
      ⟨some 22, .none, true, 3, .binOp .add 3 (.const (.int .i64 16)) (.tmp 21) 3⟩,
      ⟨some 23, .none, true, 3, .call { callee := .value (.func 64), args := #[], argTypes := #[] }⟩,
      ⟨some 4, .none, true, 3, .assign (.tmp 22)⟩,
      ⟨some 5, .none, true, 3, .assign (.tmp 23)⟩])
  .ret))))
theorem t_reeveref1_Desc : FnT Try.prog f_reeveref1_Desc rc_reeveref1_Desc [.tmp 4, .tmp 5] 2 := ⟨⟨[], Try.f55, _, Try.func55, rfl, by kernel_rfl, by kernel_rfl, by kernel_rfl, rfl, by decide⟩, by kernel_rfl⟩
/-- reeve/reeveref1.GoodGeo -/
abbrev f_reeveref1_GoodGeo : FuncId := 56
def rc_reeveref1_GoodGeo : RCode :=
  (.seq
    (.region [⟨some 1, .none, true, 0, .box 73 (.tmp 0)⟩,
      ⟨some 2, .none, true, 4, .assign (.const (.bool false))⟩])
  (.keep [1]
  (.seq
    (.region [⟨some 3, .none, true, 0, .fieldAddr 73 (.tmp 1) 0⟩,
      ⟨some 4, .none, true, 3, .load 3 (.tmp 3)⟩,
      ⟨some 5, .none, true, 4, .binOp .geq 3 (.tmp 4) (.const (.int .i64 1)) 3⟩,
      ⟨some 6, .none, true, 4, .move (.tmp 5)⟩,
      ⟨some 7, .some 6 true, true, 0, .fieldAddr 73 (.tmp 1) 0⟩,
      ⟨some 8, .some 6 true, true, 3, .load 3 (.tmp 7)⟩,
      ⟨some 9, .some 6 true, true, 4, .binOp .leq 3 (.tmp 8) (.const (.int .i64 4)) 3⟩,
      ⟨some 10, .none, true, 4, .pick (.tmp 6) (.tmp 9) (.const (.bool false))⟩,
      ⟨some 11, .none, true, 4, .move (.tmp 10)⟩,
      ⟨some 12, .some 11 true, true, 0, .fieldAddr 73 (.tmp 1) 1⟩,
      ⟨some 13, .some 11 true, true, 3, .load 3 (.tmp 12)⟩,
      ⟨some 14, .some 11 true, true, 0, .fieldAddr 73 (.tmp 1) 0⟩,
      ⟨some 15, .some 11 true, true, 3, .load 3 (.tmp 14)⟩,
      ⟨some 16, .some 11 true, true, 3, .binOp .mul 3 (.const (.int .i64 8)) (.tmp 15) 3⟩,
      ⟨some 17, .some 11 true, true, 4, .binOp .geq 3 (.tmp 13) (.tmp 16) 3⟩,
      ⟨some 18, .none, true, 4, .pick (.tmp 11) (.tmp 17) (.const (.bool false))⟩,
      ⟨some 19, .none, true, 4, .move (.tmp 18)⟩,
      ⟨some 20, .some 19 true, true, 0, .fieldAddr 73 (.tmp 1) 1⟩,
      ⟨some 21, .some 19 true, true, 3, .load 3 (.tmp 20)⟩,
      ⟨some 22, .some 19 true, true, 4, .binOp .leq 3 (.tmp 21) (.const (.int .i64 96)) 3⟩,
      ⟨some 23, .none, true, 4, .pick (.tmp 19) (.tmp 22) (.const (.bool false))⟩,
      ⟨some 24, .none, true, 4, .move (.tmp 23)⟩,
      ⟨some 25, .some 24 true, true, 0, .fieldAddr 73 (.tmp 1) 1⟩,
      ⟨some 26, .some 24 true, true, 3, .load 3 (.tmp 25)⟩,
      ⟨some 27, .some 24 true, true, 3, .binOp .rem 3 (.tmp 26) (.const (.int .i64 8)) 3⟩,
      ⟨some 28, .some 24 true, true, 4, .binOp .eql 3 (.tmp 27) (.const (.int .i64 0)) 3⟩,
      ⟨some 29, .none, true, 4, .pick (.tmp 24) (.tmp 28) (.const (.bool false))⟩,
      ⟨some 30, .none, true, 4, .move (.tmp 29)⟩,
      ⟨some 31, .some 30 true, true, 0, .fieldAddr 73 (.tmp 1) 2⟩,
      ⟨some 32, .some 30 true, true, 3, .load 3 (.tmp 31)⟩,
      ⟨some 33, .some 30 true, true, 0, .fieldAddr 73 (.tmp 1) 0⟩,
      ⟨some 34, .some 30 true, true, 3, .load 3 (.tmp 33)⟩,
      ⟨some 35, .some 30 true, true, 3, .binOp .add 3 (.tmp 34) (.const (.int .i64 2)) 3⟩,
      ⟨some 36, .some 30 true, true, 4, .binOp .geq 3 (.tmp 32) (.tmp 35) 3⟩,
      ⟨some 37, .none, true, 4, .pick (.tmp 30) (.tmp 36) (.const (.bool false))⟩,
      ⟨some 38, .none, true, 4, .move (.tmp 37)⟩,
      ⟨some 39, .some 38 true, true, 0, .fieldAddr 73 (.tmp 1) 2⟩,
      ⟨some 40, .some 38 true, true, 3, .load 3 (.tmp 39)⟩,
      ⟨some 41, .some 38 true, true, 4, .binOp .leq 3 (.tmp 40) (.const (.int .i64 48)) 3⟩,
      ⟨some 42, .none, true, 4, .pick (.tmp 38) (.tmp 41) (.const (.bool false))⟩,
      ⟨some 2, .none, true, 4, .assign (.tmp 42)⟩])
  .ret)))
theorem t_reeveref1_GoodGeo : FnT Try.prog f_reeveref1_GoodGeo rc_reeveref1_GoodGeo [.tmp 2] 1 := ⟨⟨[], Try.f56, _, Try.func56, rfl, by kernel_rfl, by kernel_rfl, by kernel_rfl, rfl, by decide⟩, by kernel_rfl⟩
/-- reeve/reeveref22.GoodWrites -/
abbrev f_reeveref22_GoodWrites : FuncId := 57
def rc_reeveref22_GoodWritesl0 : RCode :=
  (.seq
    (.seq
      (.region [⟨some 18, .none, true, 3, .move (.tmp 6)⟩,
        ⟨some 19, .none, true, 67, .move (.tmp 1)⟩,
        ⟨some 20, .none, true, 3, .call { callee := .builtin .len, args := #[.tmp 19], argTypes := #[67] }⟩,
        ⟨some 21, .none, true, 4, .binOp .lss 3 (.tmp 18) (.tmp 20) 3⟩])
    (.keep [1, 2, 5, 6, 21]
    (.cond (.tmp 21)
      .skip
      (.exit 0))))
  (.seq
    (.block 1
      (.seq
        (.seq
          (.region [⟨some 24, .none, true, 67, .move (.tmp 1)⟩,
            ⟨some 25, .none, true, 3, .move (.tmp 6)⟩,
            ⟨some 26, .none, true, 0, .indexAddr 67 (.tmp 24) (.tmp 25)⟩,
            ⟨some 27, .none, true, 0, .fieldAddr 92 (.tmp 26) 0⟩,
            ⟨some 28, .none, true, 3, .load 3 (.tmp 27)⟩,
            ⟨some 29, .none, false, 3, .move (.tmp 5)⟩,
            ⟨some 30, .none, true, 4, .binOp .leq 3 (.tmp 28) (.tmp 29) 3⟩,
            ⟨some 31, .none, true, 4, .move (.tmp 30)⟩,
            ⟨some 32, .some 31 false, false, 67, .move (.tmp 1)⟩,
            ⟨some 33, .some 31 false, false, 3, .move (.tmp 6)⟩,
            ⟨some 34, .some 31 false, false, 0, .indexAddr 67 (.tmp 32) (.tmp 33)⟩,
            ⟨some 35, .some 31 false, false, 0, .fieldAddr 92 (.tmp 34) 0⟩,
            ⟨some 36, .some 31 false, false, 3, .load 3 (.tmp 35)⟩,
            ⟨some 37, .some 31 false, false, 73, .load 73 (.tmp 2)⟩,
            ⟨some 38, .some 31 false, false, 3, .call { callee := .value (.func 66), args := #[.tmp 37], argTypes := #[73] }⟩,
            ⟨some 39, .some 31 false, true, 4, .binOp .geq 3 (.tmp 36) (.tmp 38) 3⟩,
            ⟨some 40, .none, true, 4, .pick (.tmp 31) (.const (.bool true)) (.tmp 39)⟩])
        (.keep [1, 2, 6, 40]
        (.cond (.tmp 40)
          (.seq
            (.region [⟨some 4, .none, true, 4, .assign (.const (.bool false))⟩])
          .ret)
          .skip)))
      (.region [⟨some 41, .none, true, 67, .move (.tmp 1)⟩,
        ⟨some 42, .none, true, 3, .move (.tmp 6)⟩,
        ⟨some 43, .none, true, 0, .indexAddr 67 (.tmp 41) (.tmp 42)⟩,
        ⟨some 44, .none, true, 0, .fieldAddr 92 (.tmp 43) 0⟩,
        ⟨some 45, .none, true, 3, .load 3 (.tmp 44)⟩,
        ⟨some 5, .none, true, 3, .assign (.tmp 45)⟩])))
  (.keep [1, 2, 5, 6]
  (.region [⟨some 22, .none, true, 3, .move (.tmp 6)⟩,
    ⟨some 23, .none, true, 3, .binOp .add 3 (.tmp 22) (.const (.int .i64 1)) 3⟩,
    ⟨some 6, .none, true, 3, .assign (.tmp 23)⟩]))))
def rc_reeveref22_GoodWrites : RCode :=
  (.seq
    (.region [⟨some 2, .none, true, 0, .box 73 (.tmp 0)⟩,
      ⟨some 4, .none, true, 4, .assign (.const (.bool false))⟩])
  (.keep [1, 2]
  (.seq
    (.seq
      (.region [⟨some 7, .none, true, 73, .load 73 (.tmp 2)⟩,
        ⟨some 8, .none, true, 4, .call { callee := .value (.func 56), args := #[.tmp 7], argTypes := #[73] }⟩,
        ⟨some 9, .none, true, 4, .unOp .not 4 (.tmp 8)⟩,
        ⟨some 10, .none, true, 4, .move (.tmp 9)⟩,
        ⟨some 11, .some 10 false, true, 67, .move (.tmp 1)⟩,
        ⟨some 12, .some 10 false, true, 3, .call { callee := .builtin .len, args := #[.tmp 11], argTypes := #[67] }⟩,
        ⟨some 13, .some 10 false, true, 4, .binOp .gtr 3 (.tmp 12) (.const (.int .i64 600)) 3⟩,
        ⟨some 14, .none, true, 4, .pick (.tmp 10) (.const (.bool true)) (.tmp 13)⟩])
    (.keep [1, 2, 14]
    (.cond (.tmp 14)
      (.seq
        (.region [⟨some 4, .none, true, 4, .assign (.const (.bool false))⟩])
      .ret)
      .skip)))
  (.seq
    (.region [⟨some 15, .none, true, 73, .load 73 (.tmp 2)⟩,
      ⟨some 16, .none, true, 3, .call { callee := .value (.func 65), args := #[.tmp 15, .const (.int .i64 0)], argTypes := #[73, 3] }⟩,
      ⟨some 17, .none, true, 3, .binOp .sub 3 (.tmp 16) (.const (.int .i64 1)) 3⟩,
      ⟨some 5, .none, true, 3, .assign (.tmp 17)⟩])
  (.keep [1, 2, 5]
  (.seq
    (.seq
      (.region [⟨some 6, .none, true, 3, .assign (.const (.int .i64 0))⟩])
    (.keep [1, 2, 5, 6]
    (.block 0
      (.loop [1, 2, 5, 6] rc_reeveref22_GoodWritesl0))))
  (.seq
    (.region [⟨some 4, .none, true, 4, .assign (.const (.bool true))⟩])
  .ret)))))))
theorem t_reeveref22_GoodWrites : FnT Try.prog f_reeveref22_GoodWrites rc_reeveref22_GoodWrites [.tmp 4] 2 := ⟨⟨[], Try.f57, _, Try.func57, rfl, by kernel_rfl, by kernel_rfl, by kernel_rfl, rfl, by decide⟩, by kernel_rfl⟩
/-- reeve/tag.Good -/
abbrev f_tag_Good : FuncId := 58
def rc_tag_Good : RCode :=
  (.seq
    (.region [⟨some 2, .none, true, 4, .assign (.const (.bool false))⟩])
  (.keep [0]
  (.seq
    (.region [⟨some 6, .none, true, 85, .move (.tmp 0)⟩,
      ⟨some 7, .none, true, 83, .call { callee := .value (.func 67), args := #[.tmp 6], argTypes := #[85] }⟩,
      ⟨some 5, .none, true, 83, .move (.tmp 7)⟩,
      ⟨some 8, .none, true, 23, .extract (.tmp 5) 0⟩,
      ⟨some 9, .none, true, 4, .extract (.tmp 5) 1⟩,
      ⟨some 3, .none, true, 23, .assign (.tmp 8)⟩,
      ⟨some 4, .none, true, 4, .assign (.tmp 9)⟩])
  (.keep [4]
  (.seq
    (.region [⟨some 10, .none, true, 4, .move (.tmp 4)⟩,
      ⟨some 2, .none, true, 4, .assign (.tmp 10)⟩])
  .ret)))))
theorem t_tag_Good : FnT Try.prog f_tag_Good rc_tag_Good [.tmp 2] 1 := ⟨⟨[], Try.f58, _, Try.func58, rfl, by kernel_rfl, by kernel_rfl, by kernel_rfl, rfl, by decide⟩, by kernel_rfl⟩
/-- (reeve/tag.Field).mask -/
abbrev f_tag_Field_mask : FuncId := 59
def rc_tag_Field_mask : RCode :=
  (.seq
    (.region [⟨some 1, .none, true, 0, .box 100 (.tmp 0)⟩,
      ⟨some 2, .none, true, 23, .assign (.const (.int .u64 0))⟩])
  (.keep [1]
  (.seq
    (.region [⟨some 3, .none, false, 0, .fieldAddr 100 (.tmp 1) 1⟩,
      ⟨some 4, .none, false, 3, .load 3 (.tmp 3)⟩,
      ⟨some 5, .none, false, 23, .binOp .shl 23 (.const (.int .u64 1)) (.tmp 4) 3⟩,
      ⟨some 6, .none, false, 23, .binOp .sub 23 (.tmp 5) (.const (.int .u64 1)) 23⟩,
      ⟨some 7, .none, false, 0, .fieldAddr 100 (.tmp 1) 0⟩,
      ⟨some 8, .none, false, 3, .load 3 (.tmp 7)⟩,
      ⟨some 9, .none, true, 23, .binOp .shl 23 (.tmp 6) (.tmp 8) 3⟩,
      ⟨some 2, .none, true, 23, .assign (.tmp 9)⟩])
  .ret)))
theorem t_tag_Field_mask : FnT Try.prog f_tag_Field_mask rc_tag_Field_mask [.tmp 2] 1 := ⟨⟨[], Try.f59, _, Try.func59, rfl, by kernel_rfl, by kernel_rfl, by kernel_rfl, rfl, by decide⟩, by kernel_rfl⟩
/-- reeve/geo.Good -/
abbrev f_geo_Good : FuncId := 60
def rc_geo_Good : RCode :=
  (.seq
    (.region [⟨some 1, .none, true, 0, .box 49 (.tmp 0)⟩,
      ⟨some 2, .none, true, 4, .assign (.const (.bool false))⟩])
  (.keep [1]
  (.seq
    (.region [⟨some 3, .none, true, 0, .fieldAddr 49 (.tmp 1) 0⟩,
      ⟨some 4, .none, true, 3, .load 3 (.tmp 3)⟩,
      ⟨some 5, .none, true, 4, .call { callee := .value (.func 63), args := #[.tmp 4, .const (.int .i64 1), .const (.int .i64 4)], argTypes := #[3, 3, 3] }⟩,
      ⟨some 6, .none, true, 4, .move (.tmp 5)⟩,
      ⟨some 7, .some 6 true, true, 0, .fieldAddr 49 (.tmp 1) 1⟩,
      ⟨some 8, .some 6 true, true, 3, .load 3 (.tmp 7)⟩,
      ⟨some 9, .some 6 true, true, 0, .fieldAddr 49 (.tmp 1) 0⟩,
      ⟨some 10, .some 6 true, true, 3, .load 3 (.tmp 9)⟩,
      ⟨some 11, .some 6 true, true, 3, .binOp .mul 3 (.const (.int .i64 8)) (.tmp 10) 3⟩,
      ⟨some 12, .some 6 true, true, 4, .call { callee := .value (.func 63), args := #[.tmp 8, .tmp 11, .const (.int .i64 96)], argTypes := #[3, 3, 3] }⟩,
      ⟨some 13, .none, true, 4, .pick (.tmp 6) (.tmp 12) (.const (.bool false))⟩,
      ⟨some 14, .none, true, 4, .move (.tmp 13)⟩,
      ⟨some 15, .some 14 true, true, 0, .fieldAddr 49 (.tmp 1) 1⟩,
      ⟨some 16, .some 14 true, true, 3, .load 3 (.tmp 15)⟩,
      ⟨some 17, .some 14 true, true, 3, .binOp .rem 3 (.tmp 16) (.const (.int .i64 8)) 3⟩,
      ⟨some 18, .some 14 true, true, 4, .binOp .eql 3 (.tmp 17) (.const (.int .i64 0)) 3⟩,
      ⟨some 19, .none, true, 4, .pick (.tmp 14) (.tmp 18) (.const (.bool false))⟩,
      ⟨some 20, .none, true, 4, .move (.tmp 19)⟩,
      ⟨some 21, .some 20 true, true, 0, .fieldAddr 49 (.tmp 1) 2⟩,
      ⟨some 22, .some 20 true, true, 3, .load 3 (.tmp 21)⟩,
      ⟨some 23, .some 20 true, true, 0, .fieldAddr 49 (.tmp 1) 0⟩,
      ⟨some 24, .some 20 true, true, 3, .load 3 (.tmp 23)⟩,
      ⟨some 25, .some 20 true, true, 3, .binOp .add 3 (.tmp 24) (.const (.int .i64 2)) 3⟩,
      ⟨some 26, .some 20 true, true, 4, .call { callee := .value (.func 63), args := #[.tmp 22, .tmp 25, .const (.int .i64 48)], argTypes := #[3, 3, 3] }⟩,
      ⟨some 27, .none, true, 4, .pick (.tmp 20) (.tmp 26) (.const (.bool false))⟩,
      ⟨some 2, .none, true, 4, .assign (.tmp 27)⟩])
  .ret)))
theorem t_geo_Good : FnT Try.prog f_geo_Good rc_geo_Good [.tmp 2] 1 := ⟨⟨[], Try.f60, _, Try.func60, rfl, by kernel_rfl, by kernel_rfl, by kernel_rfl, rfl, by decide⟩, by kernel_rfl⟩
/-- reeve/geo.Slot -/
abbrev f_geo_Slot : FuncId := 61
def rc_geo_Slot : RCode :=
  (.seq
    (.region [⟨some 2, .none, true, 0, .box 49 (.tmp 0)⟩,
      ⟨some 4, .none, true, 3, .assign (.const (.int .i64 0))⟩])
  (.keep [1, 2]
  (.seq
    (.seq
      (.region [⟨some 5, .none, true, 49, .load 49 (.tmp 2)⟩,
        ⟨some 6, .none, true, 4, .call { callee := .value (.func 60), args := #[.tmp 5], argTypes := #[49] }⟩,
        ⟨some 7, .none, true, 4, .unOp .not 4 (.tmp 6)⟩,
        ⟨some 8, .none, true, 4, .move (.tmp 7)⟩,
        ⟨some 9, .some 8 false, true, 3, .move (.tmp 1)⟩,
        ⟨some 10, .some 8 false, true, 0, .fieldAddr 49 (.tmp 2) 1⟩,
        ⟨some 11, .some 8 false, true, 3, .load 3 (.tmp 10)⟩,
        ⟨some 12, .some 8 false, true, 3, .binOp .sub 3 (.tmp 11) (.const (.int .i64 1)) 3⟩,
        ⟨some 13, .some 8 false, true, 4, .call { callee := .value (.func 63), args := #[.tmp 9, .const (.int .i64 0), .tmp 12], argTypes := #[3, 3, 3] }⟩,
        ⟨some 14, .some 8 false, true, 4, .unOp .not 4 (.tmp 13)⟩,
        ⟨some 15, .none, true, 4, .pick (.tmp 8) (.const (.bool true)) (.tmp 14)⟩])
    (.keep [1, 2, 15]
    (.cond (.tmp 15)
      (.seq
        (.region [⟨some 4, .none, true, 3, .assign (.const (.int .i64 0))⟩])
      .ret)
      .skip)))
  (.seq
    (.region [⟨some 16, .none, true, 49, .load 49 (.tmp 2)⟩,
      ⟨some 17, .none, true, 3, .call { callee := .value (.func 68), args := #[.tmp 16], argTypes := #[49] }⟩,
      ⟨some 18, .none, true, 3, .move (.tmp 1)⟩,
      ⟨some 19, .none, true, 3, .binOp .mul 3 (.const (.int .i64 2)) (.tmp 18) 3⟩,
      ⟨some 20, .none, true, 3, .binOp .add 3 (.tmp 17) (.tmp 19) 3⟩,
      ⟨some 4, .none, true, 3, .assign (.tmp 20)⟩])
  .ret))))
theorem t_geo_Slot : FnT Try.prog f_geo_Slot rc_geo_Slot [.tmp 4] 2 := ⟨⟨[], Try.f61, _, Try.func61, rfl, by kernel_rfl, by kernel_rfl, by kernel_rfl, rfl, by decide⟩, by kernel_rfl⟩
/-- reeve/geo.Copy -/
abbrev f_geo_Copy : FuncId := 62
def rc_geo_Copy : RCode :=
  (.seq
    (.region [⟨some 1, .none, true, 0, .box 49 (.tmp 0)⟩,
      ⟨some 2, .none, true, 3, .assign (.const (.int .i64 0))⟩])
  (.keep [1]
  (.seq
    (.seq
      (.region [⟨some 3, .none, true, 49, .load 49 (.tmp 1)⟩,
        ⟨some 4, .none, true, 4, .call { callee := .value (.func 60), args := #[.tmp 3], argTypes := #[49] }⟩,
        ⟨some 5, .none, true, 4, .unOp .not 4 (.tmp 4)⟩])
    (.keep [1, 5]
    (.cond (.tmp 5)
      (.seq
        (.region [⟨some 2, .none, true, 3, .assign (.const (.int .i64 0))⟩])
      .ret)
      .skip)))
  (.seq
    (.region [⟨some 6, .none, false, 49, .load 49 (.tmp 1)⟩,
      ⟨some 7, .none, false, 3, .call { callee := .value (.func 69), args := #[.tmp 6], argTypes := #[49] }⟩,
      ⟨some 8, .none, false, 0, .fieldAddr 49 (.tmp 1) 2⟩,
      ⟨some 9, .none, false, 3, .load 3 (.tmp 8)⟩,
      ⟨some 10, .none, false, 3, .binOp .mul 3 (.const (.int .i64 8)) (.tmp 9) 3⟩,
      ⟨some 11, .none, true, 3, .binOp .add 3 (.tmp 7) (.tmp 10) 3⟩,
      ⟨some 2, .none, true, 3, .assign (.tmp 11)⟩])
  .ret))))
theorem t_geo_Copy : FnT Try.prog f_geo_Copy rc_geo_Copy [.tmp 2] 1 := ⟨⟨[], Try.f62, _, Try.func62, rfl, by kernel_rfl, by kernel_rfl, by kernel_rfl, rfl, by decide⟩, by kernel_rfl⟩
/-- reeve/geo.in -/
abbrev f_geo_in : FuncId := 63
def rc_geo_in : RCode :=
  (.seq
    (.region [⟨some 6, .none, true, 4, .assign (.const (.bool false))⟩])
  (.keep [0, 1, 2]
  (.seq
    (.region [⟨some 7, .none, true, 3, .move (.tmp 0)⟩,
      ⟨some 8, .none, true, 3, .move (.tmp 1)⟩,
      ⟨some 9, .none, true, 4, .binOp .geq 3 (.tmp 7) (.tmp 8) 3⟩,
      ⟨some 10, .none, true, 4, .move (.tmp 9)⟩,
      ⟨some 11, .some 10 true, true, 3, .move (.tmp 0)⟩,
      ⟨some 12, .some 10 true, true, 3, .move (.tmp 2)⟩,
      ⟨some 13, .some 10 true, true, 4, .binOp .leq 3 (.tmp 11) (.tmp 12) 3⟩,
      ⟨some 14, .none, true, 4, .pick (.tmp 10) (.tmp 13) (.const (.bool false))⟩,
      ⟨some 6, .none, true, 4, .assign (.tmp 14)⟩])
  .ret)))
theorem t_geo_in : FnT Try.prog f_geo_in rc_geo_in [.tmp 6] 3 := ⟨⟨[], Try.f63, _, Try.func63, rfl, by kernel_rfl, by kernel_rfl, by kernel_rfl, rfl, by decide⟩, by kernel_rfl⟩
/-- reeve/reeveref1.long -/
abbrev f_reeveref1_long : FuncId := 64
def rc_reeveref1_long : RCode :=
  (.seq
    (.region [⟨some 0, .none, true, 3, .assign (.const (.int .i64 0))⟩])
  (.keep []
  (.seq
    (.region [⟨some 0, .none, true, 3, .assign (.const (.int .i64 1208))⟩])
  .ret)))
theorem t_reeveref1_long : FnT Try.prog f_reeveref1_long rc_reeveref1_long [.tmp 0] 0 := ⟨⟨[], Try.f64, _, Try.func64, rfl, by kernel_rfl, by kernel_rfl, by kernel_rfl, rfl, by decide⟩, by kernel_rfl⟩
/-- reeve/reeveref1.Slot -/
abbrev f_reeveref1_Slot : FuncId := 65
def rc_reeveref1_Slot : RCode :=
  (.seq
    (.region [⟨some 2, .none, true, 0, .box 73 (.tmp 0)⟩,
      ⟨some 4, .none, true, 3, .assign (.const (.int .i64 0))⟩])
  (.keep [1, 2]
  (.seq
    (.seq
      (.region [⟨some 5, .none, true, 73, .load 73 (.tmp 2)⟩,
        ⟨some 6, .none, true, 4, .call { callee := .value (.func 56), args := #[.tmp 5], argTypes := #[73] }⟩,
        ⟨some 7, .none, true, 4, .unOp .not 4 (.tmp 6)⟩,
        ⟨some 8, .none, true, 4, .move (.tmp 7)⟩,
        ⟨some 9, .some 8 false, true, 3, .move (.tmp 1)⟩,
        ⟨some 10, .some 8 false, true, 4, .binOp .lss 3 (.tmp 9) (.const (.int .i64 0)) 3⟩,
        ⟨some 11, .none, true, 4, .pick (.tmp 8) (.const (.bool true)) (.tmp 10)⟩,
        ⟨some 12, .none, true, 4, .move (.tmp 11)⟩,
        ⟨some 13, .some 12 false, true, 3, .move (.tmp 1)⟩,
        ⟨some 14, .some 12 false, true, 0, .fieldAddr 73 (.tmp 2) 1⟩,
        ⟨some 15, .some 12 false, true, 3, .load 3 (.tmp 14)⟩,
        ⟨some 16, .some 12 false, true, 4, .binOp .geq 3 (.tmp 13) (.tmp 15) 3⟩,
        ⟨some 17, .none, true, 4, .pick (.tmp 12) (.const (.bool true)) (.tmp 16)⟩])
    (.keep [1, 2, 17]
    (.cond (.tmp 17)
      (.seq
        (.region [⟨some 4, .none, true, 3, .assign (.const (.int .i64 0))⟩])
      .ret)
      .skip)))
  (.seq
    (.region [⟨some 18, .none, true, 73, .load 73 (.tmp 2)⟩,
      ⟨some 19, .none, true, 3, .call { callee := .value (.func 70), args := #[.tmp 18], argTypes := #[73] }⟩,
      ⟨some 20, .none, true, 3, .move (.tmp 1)⟩,
      ⟨some 21, .none, true, 3, .binOp .mul 3 (.const (.int .i64 2)) (.tmp 20) 3⟩,
      ⟨some 22, .none, true, 3, .binOp .add 3 (.tmp 19) (.tmp 21) 3⟩,
      ⟨some 4, .none, true, 3, .assign (.tmp 22)⟩])
  .ret))))
theorem t_reeveref1_Slot : FnT Try.prog f_reeveref1_Slot rc_reeveref1_Slot [.tmp 4] 2 := ⟨⟨[], Try.f65, _, Try.func65, rfl, by kernel_rfl, by kernel_rfl, by kernel_rfl, rfl, by decide⟩, by kernel_rfl⟩
/-- reeve/reeveref1.Copy -/
abbrev f_reeveref1_Copy : FuncId := 66
def rc_reeveref1_Copy : RCode :=
  (.seq
    (.region [⟨some 1, .none, true, 0, .box 73 (.tmp 0)⟩,
      ⟨some 2, .none, true, 3, .assign (.const (.int .i64 0))⟩])
  (.keep [1]
  (.seq
    (.seq
      (.region [⟨some 3, .none, true, 73, .load 73 (.tmp 1)⟩,
        ⟨some 4, .none, true, 4, .call { callee := .value (.func 56), args := #[.tmp 3], argTypes := #[73] }⟩,
        ⟨some 5, .none, true, 4, .unOp .not 4 (.tmp 4)⟩])
    (.keep [1, 5]
    (.cond (.tmp 5)
      (.seq
        (.region [⟨some 2, .none, true, 3, .assign (.const (.int .i64 0))⟩])
      .ret)
      .skip)))
  (.seq
    (.region [⟨some 6, .none, false, 73, .load 73 (.tmp 1)⟩,
      ⟨some 7, .none, false, 3, .call { callee := .value (.func 70), args := #[.tmp 6], argTypes := #[73] }⟩,
      ⟨some 8, .none, false, 0, .fieldAddr 73 (.tmp 1) 1⟩,
      ⟨some 9, .none, false, 3, .load 3 (.tmp 8)⟩,
      ⟨some 10, .none, false, 3, .binOp .mul 3 (.const (.int .i64 2)) (.tmp 9) 3⟩,
      ⟨some 11, .none, false, 3, .binOp .add 3 (.tmp 7) (.tmp 10) 3⟩,
      ⟨some 12, .none, false, 0, .fieldAddr 73 (.tmp 1) 2⟩,
      ⟨some 13, .none, false, 3, .load 3 (.tmp 12)⟩,
      ⟨some 14, .none, false, 3, .binOp .mul 3 (.const (.int .i64 8)) (.tmp 13) 3⟩,
      ⟨some 15, .none, true, 3, .binOp .add 3 (.tmp 11) (.tmp 14) 3⟩,
      ⟨some 2, .none, true, 3, .assign (.tmp 15)⟩])
  .ret))))
theorem t_reeveref1_Copy : FnT Try.prog f_reeveref1_Copy rc_reeveref1_Copy [.tmp 2] 1 := ⟨⟨[], Try.f66, _, Try.func66, rfl, by kernel_rfl, by kernel_rfl, by kernel_rfl, rfl, by decide⟩, by kernel_rfl⟩
/-- reeve/tag.all -/
abbrev f_tag_all : FuncId := 67
def rc_tag_alll0 : RCode :=
  (.seq
    (.region [⟨some 10, .none, true, 0, .binOp .lss 3 (.tmp 9) (.tmp 8) 3⟩])
  (.keep [4, 7, 8, 9, 10]
  (.seq
    (.cond (.tmp 10)
      .skip
      (.exit 0))
  (.keep [4, 7, 8, 9]
  (.seq
    (.block 1
      (.seq
        (.region [⟨some 11, .none, true, 0, .indexAddr 85 (.tmp 7) (.tmp 9)⟩,
          ⟨some 12, .none, true, 100, .load 100 (.tmp 11)⟩,
          ⟨some 6, .none, true, 0, .alloc 100⟩,
          ⟨none, .none, true, 0, .store 100 (.tmp 6) (.tmp 12)⟩])
      (.keep [4, 6, 7, 8, 9]
      (.seq
        (.seq
          (.region [⟨some 13, .none, true, 0, .fieldAddr 100 (.tmp 6) 0⟩,
            ⟨some 14, .none, true, 3, .load 3 (.tmp 13)⟩,
            ⟨some 15, .none, true, 4, .binOp .lss 3 (.tmp 14) (.const (.int .i64 0)) 3⟩,
            ⟨some 16, .none, true, 4, .move (.tmp 15)⟩,
            ⟨some 17, .some 16 false, true, 0, .fieldAddr 100 (.tmp 6) 0⟩,
            ⟨some 18, .some 16 false, true, 3, .load 3 (.tmp 17)⟩,
            ⟨some 19, .some 16 false, true, 4, .binOp .geq 3 (.tmp 18) (.const (.int .i64 64)) 3⟩,
            ⟨some 20, .none, true, 4, .pick (.tmp 16) (.const (.bool true)) (.tmp 19)⟩,
            ⟨some 21, .none, true, 4, .move (.tmp 20)⟩,
            ⟨some 22, .some 21 false, true, 0, .fieldAddr 100 (.tmp 6) 1⟩,
            ⟨some 23, .some 21 false, true, 3, .load 3 (.tmp 22)⟩,
            ⟨some 24, .some 21 false, true, 4, .binOp .lss 3 (.tmp 23) (.const (.int .i64 1)) 3⟩,
            ⟨some 25, .none, true, 4, .pick (.tmp 21) (.const (.bool true)) (.tmp 24)⟩,
            ⟨some 26, .none, true, 4, .move (.tmp 25)⟩,
            ⟨some 27, .some 26 false, true, 0, .fieldAddr 100 (.tmp 6) 1⟩,
            ⟨some 28, .some 26 false, true, 3, .load 3 (.tmp 27)⟩,
            ⟨some 29, .some 26 false, true, 0, .fieldAddr 100 (.tmp 6) 0⟩,
            ⟨some 30, .some 26 false, true, 3, .load 3 (.tmp 29)⟩,
            ⟨some 31, .some 26 false, true, 3, .binOp .sub 3 (.const (.int .i64 64)) (.tmp 30) 3⟩,
            ⟨some 32, .some 26 false, true, 4, .binOp .gtr 3 (.tmp 28) (.tmp 31) 3⟩,
            ⟨some 33, .none, true, 4, .pick (.tmp 26) (.const (.bool true)) (.tmp 32)⟩,
            ⟨some 34, .none, true, 4, .move (.tmp 33)⟩,
            ⟨some 35, .some 34 false, true, 23, .move (.tmp 4)⟩,
            ⟨some 36, .some 34 false, true, 100, .load 100 (.tmp 6)⟩,
            ⟨some 37, .some 34 false, true, 23, .call { callee := .value (.func 59), args := #[.tmp 36], argTypes := #[100] }⟩,
            ⟨some 38, .some 34 false, true, 23, .binOp .and 23 (.tmp 35) (.tmp 37) 23⟩,
            ⟨some 39, .some 34 false, true, 4, .binOp .neq 23 (.tmp 38) (.const (.int .u64 0)) 23⟩,
            ⟨some 40, .none, true, 4, .pick (.tmp 34) (.const (.bool true)) (.tmp 39)⟩])
        (.keep [4, 6, 7, 8, 9, 40]
        (.cond (.tmp 40)
          (.seq
            (.region [⟨some 2, .none, true, 23, .assign (.const (.int .u64 0))⟩,
              ⟨some 3, .none, true, 4, .assign (.const (.bool false))⟩])
          .ret)
          .skip)))
      (.region [⟨some 41, .none, true, 23, .move (.tmp 4)⟩,
        ⟨some 42, .none, true, 100, .load 100 (.tmp 6)⟩,
        ⟨some 43, .none, true, 23, .call { callee := .value (.func 59), args := #[.tmp 42], argTypes := #[100] }⟩,
        ⟨some 44, .none, true, 23, .binOp .or 23 (.tmp 41) (.tmp 43) 23⟩,
        ⟨some 4, .none, true, 23, .assign (.tmp 44)⟩])))))
  (.keep [4, 7, 8, 9]
  (.region [⟨some 45, .none, true, 3, .binOp .add 3 (.tmp 9) (.const (.int .i64 1)) 3⟩,
    ⟨some 9, .none, true, 3, .move (.tmp 45)⟩])))))))
def rc_tag_all : RCode :=
  (.seq
    (.region [⟨some 2, .none, true, 23, .assign (.const (.int .u64 0))⟩,
      ⟨some 3, .none, true, 4, .assign (.const (.bool false))⟩])
  (.keep [0]
  (.seq
    (.region [⟨some 4, .none, true, 23, .assign (.const (.int .u64 0))⟩])
  (.keep [0, 4]
  (.seq
    (.seq
      (.region [⟨some 7, .none, true, 85, .move (.tmp 0)⟩,
        ⟨some 8, .none, true, 3, .call { callee := .builtin .len, args := #[.tmp 7], argTypes := #[85] }⟩,
        ⟨some 9, .none, true, 3, .move (.const (.int .i64 0))⟩])
    (.keep [4, 7, 8, 9]
    (.block 0
      (.loop [4, 7, 8, 9] rc_tag_alll0))))
  (.seq
    (.region [⟨some 46, .none, true, 23, .move (.tmp 4)⟩,
      ⟨some 2, .none, true, 23, .assign (.tmp 46)⟩,
      ⟨some 3, .none, true, 4, .assign (.const (.bool true))⟩])
  .ret))))))
theorem t_tag_all : FnT Try.prog f_tag_all rc_tag_all [.tmp 2, .tmp 3] 1 := ⟨⟨[], Try.f67, _, Try.func67, rfl, by kernel_rfl, by kernel_rfl, by kernel_rfl, rfl, by decide⟩, by kernel_rfl⟩
/-- reeve/geo.slotsAt -/
abbrev f_geo_slotsAt : FuncId := 68
def rc_geo_slotsAt : RCode :=
  (.seq
    (.region [⟨some 1, .none, true, 0, .box 49 (.tmp 0)⟩,
      ⟨some 2, .none, true, 3, .assign (.const (.int .i64 0))⟩])
  (.keep [1]
  (.seq
    (.region [⟨some 3, .none, true, 0, .fieldAddr 49 (.tmp 1) 0⟩,
      ⟨some 4, .none, true, 3, .load 3 (.tmp 3)⟩,
      ⟨some 5, .none, true, 3, .binOp .mul 3 (.tmp 4) (.const (.int .i64 1208)) 3⟩,
      ⟨some 6, .none, true, 3, .binOp .add 3 (.const (.int .i64 16)) (.tmp 5) 3⟩,
      ⟨some 2, .none, true, 3, .assign (.tmp 6)⟩])
  .ret)))
theorem t_geo_slotsAt : FnT Try.prog f_geo_slotsAt rc_geo_slotsAt [.tmp 2] 1 := ⟨⟨[], Try.f68, _, Try.func68, rfl, by kernel_rfl, by kernel_rfl, by kernel_rfl, rfl, by decide⟩, by kernel_rfl⟩
/-- reeve/geo.thingsAt -/
abbrev f_geo_thingsAt : FuncId := 69
def rc_geo_thingsAt : RCode :=
  (.seq
    (.region [⟨some 1, .none, true, 0, .box 49 (.tmp 0)⟩,
      ⟨some 2, .none, true, 3, .assign (.const (.int .i64 0))⟩])
  (.keep [1]
  (.seq
    (.region [⟨some 3, .none, false, 49, .load 49 (.tmp 1)⟩,
      ⟨some 4, .none, false, 3, .call { callee := .value (.func 68), args := #[.tmp 3], argTypes := #[49] }⟩,
      ⟨some 5, .none, false, 0, .fieldAddr 49 (.tmp 1) 1⟩,
      ⟨some 6, .none, false, 3, .load 3 (.tmp 5)⟩,
      ⟨some 7, .none, false, 3, .binOp .mul 3 (.const (.int .i64 2)) (.tmp 6) 3⟩,
      ⟨some 8, .none, true, 3, .binOp .add 3 (.tmp 4) (.tmp 7) 3⟩,
      ⟨some 2, .none, true, 3, .assign (.tmp 8)⟩])
  .ret)))
theorem t_geo_thingsAt : FnT Try.prog f_geo_thingsAt rc_geo_thingsAt [.tmp 2] 1 := ⟨⟨[], Try.f69, _, Try.func69, rfl, by kernel_rfl, by kernel_rfl, by kernel_rfl, rfl, by decide⟩, by kernel_rfl⟩
/-- reeve/reeveref1.slots -/
abbrev f_reeveref1_slots : FuncId := 70
def rc_reeveref1_slots : RCode :=
  (.seq
    (.region [⟨some 1, .none, true, 0, .box 73 (.tmp 0)⟩,
      ⟨some 2, .none, true, 3, .assign (.const (.int .i64 0))⟩])
  (.keep [1]
  (.seq
    (.region [⟨some 3, .none, false, 0, .fieldAddr 73 (.tmp 1) 0⟩,
      ⟨some 4, .none, false, 3, .load 3 (.tmp 3)⟩,
      ⟨some 5, .none, false, 3, .call { callee := .value (.func 64), args := #[], argTypes := #[] }⟩,
      ⟨some 6, .none, true, 3, .binOp .mul 3 (.tmp 4) (.tmp 5) 3⟩,
      ⟨some 7, .none, true, 3, .binOp .add 3 (.const (.int .i64 16)) (.tmp 6) 3⟩,
      ⟨some 2, .none, true, 3, .assign (.tmp 7)⟩])
  .ret)))
theorem t_reeveref1_slots : FnT Try.prog f_reeveref1_slots rc_reeveref1_slots [.tmp 2] 1 := ⟨⟨[], Try.f70, _, Try.func70, rfl, by kernel_rfl, by kernel_rfl, by kernel_rfl, rfl, by decide⟩, by kernel_rfl⟩
def tab : XTab :=
  [(9, rc_reevelaw24_OpdSays, [.tmp 8], 4),
   (10, rc_reevelaw24_OpdBack, [.tmp 8], 4),
   (11, rc_reevelaw24_OpdFirst, [.tmp 4], 2),
   (12, rc_reevelaw24_OpdTail, [.tmp 6], 3),
   (26, rc_reevelaw24_awake, [.tmp 0], 0),
   (27, rc_geo_Plain, [.cell 0 49], 0),
   (28, rc_reevelaw24_some, [.cell 0 57], 0),
   (29, rc_opd_Good, [.tmp 4], 2),
   (30, rc_opd_Put, [.tmp 4], 2),
   (31, rc_opd_Get, [.cell 4 57, .tmp 5], 2),
   (32, rc_reevelaw24_sameD, [.tmp 4], 2),
   (33, rc_reevelaw24_descOf, [.cell 2 69], 1),
   (34, rc_opd_First, [.tmp 2], 1),
   (35, rc_reeveref22_PutDesc, [.tmp 4], 2),
   (36, rc_reevelaw24_geoOf, [.cell 2 73], 1),
   (37, rc_reevelaw24_words, [.tmp 4], 2),
   (38, rc_reeveref22_GoodDesc, [.tmp 4], 2),
   (39, rc_reeveref22_First, [.tmp 2], 1),
   (40, rc_reeveref22_GetDesc, [.cell 4 69, .tmp 5], 2),
   (43, rc_tag_Put, [.tmp 4, .tmp 5], 2),
   (46, rc_tag_Get, [.tmp 4], 2),
   (50, rc_wset_Good, [.tmp 4], 2),
   (51, rc_geo_Desc, [.tmp 4, .tmp 5], 2),
   (52, rc_opd_fields, [.tmp 0], 0),
   (53, rc_reevelaw24_ownW, [.tmp 2], 1),
   (54, rc_slices_Max_S_uint64_uint64, [.tmp 2], 1),
   (55, rc_reeveref1_Desc, [.tmp 4, .tmp 5], 2),
   (56, rc_reeveref1_GoodGeo, [.tmp 2], 1),
   (57, rc_reeveref22_GoodWrites, [.tmp 4], 2),
   (58, rc_tag_Good, [.tmp 2], 1),
   (59, rc_tag_Field_mask, [.tmp 2], 1),
   (60, rc_geo_Good, [.tmp 2], 1),
   (61, rc_geo_Slot, [.tmp 4], 2),
   (62, rc_geo_Copy, [.tmp 2], 1),
   (63, rc_geo_in, [.tmp 6], 3),
   (64, rc_reeveref1_long, [.tmp 0], 0),
   (65, rc_reeveref1_Slot, [.tmp 4], 2),
   (66, rc_reeveref1_Copy, [.tmp 2], 1),
   (67, rc_tag_all, [.tmp 2, .tmp 3], 1),
   (68, rc_geo_slotsAt, [.tmp 2], 1),
   (69, rc_geo_thingsAt, [.tmp 2], 1),
   (70, rc_reeveref1_slots, [.tmp 2], 1)]
theorem tabOk : TabOk Try.prog tab :=
  .cons t_reevelaw24_OpdSays <|
  .cons t_reevelaw24_OpdBack <|
  .cons t_reevelaw24_OpdFirst <|
  .cons t_reevelaw24_OpdTail <|
  .cons t_reevelaw24_awake <|
  .cons t_geo_Plain <|
  .cons t_reevelaw24_some <|
  .cons t_opd_Good <|
  .cons t_opd_Put <|
  .cons t_opd_Get <|
  .cons t_reevelaw24_sameD <|
  .cons t_reevelaw24_descOf <|
  .cons t_opd_First <|
  .cons t_reeveref22_PutDesc <|
  .cons t_reevelaw24_geoOf <|
  .cons t_reevelaw24_words <|
  .cons t_reeveref22_GoodDesc <|
  .cons t_reeveref22_First <|
  .cons t_reeveref22_GetDesc <|
  .cons t_tag_Put <|
  .cons t_tag_Get <|
  .cons t_wset_Good <|
  .cons t_geo_Desc <|
  .cons t_opd_fields <|
  .cons t_reevelaw24_ownW <|
  .cons t_slices_Max_S_uint64_uint64 <|
  .cons t_reeveref1_Desc <|
  .cons t_reeveref1_GoodGeo <|
  .cons t_reeveref22_GoodWrites <|
  .cons t_tag_Good <|
  .cons t_tag_Field_mask <|
  .cons t_geo_Good <|
  .cons t_geo_Slot <|
  .cons t_geo_Copy <|
  .cons t_geo_in <|
  .cons t_reeveref1_long <|
  .cons t_reeveref1_Slot <|
  .cons t_reeveref1_Copy <|
  .cons t_tag_all <|
  .cons t_geo_slotsAt <|
  .cons t_geo_thingsAt <|
  .cons t_reeveref1_slots <| .nil

end Go.Proofs.Ytafpgojoemcgnaa.F24
