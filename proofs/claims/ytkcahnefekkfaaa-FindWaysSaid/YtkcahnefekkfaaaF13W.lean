/- Functions of the program made ready for walking, each with its proof; facts of types. Written by gen2.py. -/
import Derived.Test.YtkcahnefekkfaaaProg
import Derived.Test.YtkcahnefekkfaaaAbsE
set_option linter.unusedVariables false
set_option linter.unusedSectionVars false
set_option maxRecDepth 100000
namespace Go.Proofs.Ytkcahnefekkfaaa.F13W
open Go Go.Proofs Go.Proofs.YtkcahnefekkfaaaAbs
variable [Base]
theorem hm : Try.prog.follows .mixedOrders = true := by kernel_rfl
abbrev T_int : TypeId := 3
theorem ts_int : tsize Try.prog 3 = some 1 := by kernel_rfl
theorem tb_int : tbytes Try.prog 3 = some 8 := by kernel_rfl
theorem ta_int : tagg Try.prog 3 = some false := by kernel_rfl
theorem tz_int : zeroFlat Try.prog 3 = some [.int .i64 0] := by kernel_rfl
theorem tv_int : tzero Try.prog 3 = some (.int .i64 0) := by kernel_rfl
theorem tu_int : Try.prog.underlying 3 = some (.int .i64) := by kernel_rfl
abbrev T_bool : TypeId := 4
theorem ts_bool : tsize Try.prog 4 = some 1 := by kernel_rfl
theorem tb_bool : tbytes Try.prog 4 = some 1 := by kernel_rfl
theorem ta_bool : tagg Try.prog 4 = some false := by kernel_rfl
theorem tz_bool : zeroFlat Try.prog 4 = some [.bool false] := by kernel_rfl
theorem tv_bool : tzero Try.prog 4 = some (.bool false) := by kernel_rfl
theorem tu_bool : Try.prog.underlying 4 = some (.bool) := by kernel_rfl
abbrev T_geo_Geo : TypeId := 23
theorem te_geo_Geo : eqOk Try.prog 23 = some [.int .i64, .int .i64, .int .i64] := by kernel_rfl
theorem ts_geo_Geo : tsize Try.prog 23 = some 3 := by kernel_rfl
theorem tb_geo_Geo : tbytes Try.prog 23 = some 24 := by kernel_rfl
theorem ta_geo_Geo : tagg Try.prog 23 = some true := by kernel_rfl
theorem tz_geo_Geo : zeroFlat Try.prog 23 = some [.int .i64 0, .int .i64 0, .int .i64 0] := by kernel_rfl
theorem tv_geo_Geo : tzero Try.prog 23 = some (.agg #[.int .i64 0, .int .i64 0, .int .i64 0]) := by kernel_rfl
theorem tp_geo_Geo : tplaces Try.prog 23 = some [(0, 1), (1, 1), (2, 1)] := by kernel_rfl
theorem tf_geo_Geo_Threads : tfield Try.prog 23 0 = some (3, 0) := by kernel_rfl
theorem tg_geo_Geo_Threads : tfield' Try.prog 23 0 = some (3, 0) := by kernel_rfl
theorem tf_geo_Geo_Slots : tfield Try.prog 23 1 = some (3, 1) := by kernel_rfl
theorem tg_geo_Geo_Slots : tfield' Try.prog 23 1 = some (3, 1) := by kernel_rfl
theorem tf_geo_Geo_Things : tfield Try.prog 23 2 = some (3, 2) := by kernel_rfl
theorem tg_geo_Geo_Things : tfield' Try.prog 23 2 = some (3, 2) := by kernel_rfl
abbrev T_S_state_Slot : TypeId := 24
abbrev T_state_Slot : TypeId := 34
theorem te_state_Slot : eqOk Try.prog 34 = some [.int .i64, .int .i64, .int .i64, .int .i64, .int .i64] := by kernel_rfl
theorem ts_state_Slot : tsize Try.prog 34 = some 5 := by kernel_rfl
theorem tb_state_Slot : tbytes Try.prog 34 = some 40 := by kernel_rfl
theorem ta_state_Slot : tagg Try.prog 34 = some true := by kernel_rfl
theorem tz_state_Slot : zeroFlat Try.prog 34 = some [.int .i64 0, .int .i64 0, .int .i64 0, .int .i64 0, .int .i64 0] := by kernel_rfl
theorem tv_state_Slot : tzero Try.prog 34 = some (.agg #[.int .i64 0, .int .i64 0, .int .i64 0, .int .i64 0, .int .i64 0]) := by kernel_rfl
theorem tp_state_Slot : tplaces Try.prog 34 = some [(0, 4), (4, 1)] := by kernel_rfl
theorem tf_state_Slot_Cap : tfield Try.prog 34 0 = some (32, 0) := by kernel_rfl
theorem tg_state_Slot_Cap : tfield' Try.prog 34 0 = some (32, 0) := by kernel_rfl
theorem tf_state_Slot_Up : tfield Try.prog 34 1 = some (3, 4) := by kernel_rfl
theorem tg_state_Slot_Up : tfield' Try.prog 34 1 = some (3, 4) := by kernel_rfl
theorem ts_S_state_Slot : tsize Try.prog 24 = some 1 := by kernel_rfl
theorem tb_S_state_Slot : tbytes Try.prog 24 = some 24 := by kernel_rfl
theorem ta_S_state_Slot : tagg Try.prog 24 = some false := by kernel_rfl
theorem tz_S_state_Slot : zeroFlat Try.prog 24 = some [.slice none 0 0] := by kernel_rfl
theorem tv_S_state_Slot : tzero Try.prog 24 = some (.slice none 0 0) := by kernel_rfl
theorem tu_S_state_Slot : Try.prog.underlying 24 = some (.slice 34) := by kernel_rfl
abbrev T_S_thing_Thing : TypeId := 25
abbrev T_thing_Thing : TypeId := 71
theorem te_thing_Thing : eqOk Try.prog 71 = some [.int .i64, .int .i64, .int .i64, .int .i64, .int .i64, .int .i64, .int .i64, .bool, .int .u64, .int .u64, .int .u64, .int .u64, .int .u64] := by kernel_rfl
theorem ts_thing_Thing : tsize Try.prog 71 = some 13 := by kernel_rfl
theorem tb_thing_Thing : tbytes Try.prog 71 = some 104 := by kernel_rfl
theorem ta_thing_Thing : tagg Try.prog 71 = some true := by kernel_rfl
theorem tz_thing_Thing : zeroFlat Try.prog 71 = some [.int .i64 0, .int .i64 0, .int .i64 0, .int .i64 0, .int .i64 0, .int .i64 0, .int .i64 0, .bool false, .int .u64 0, .int .u64 0, .int .u64 0, .int .u64 0, .int .u64 0] := by kernel_rfl
theorem tv_thing_Thing : tzero Try.prog 71 = some (.agg #[.int .i64 0, .int .i64 0, .int .i64 0, .int .i64 0, .int .i64 0, .int .i64 0, .int .i64 0, .bool false, .int .u64 0, .int .u64 0, .int .u64 0, .int .u64 0, .int .u64 0]) := by kernel_rfl
theorem tp_thing_Thing : tplaces Try.prog 71 = some [(0, 1), (1, 1), (2, 1), (3, 1), (4, 1), (5, 1), (6, 1), (7, 1), (8, 1), (9, 4)] := by kernel_rfl
theorem tf_thing_Thing_Type : tfield Try.prog 71 0 = some (3, 0) := by kernel_rfl
theorem tg_thing_Thing_Type : tfield' Try.prog 71 0 = some (3, 0) := by kernel_rfl
theorem tf_thing_Thing_Bits : tfield Try.prog 71 1 = some (3, 1) := by kernel_rfl
theorem tg_thing_Thing_Bits : tfield' Try.prog 71 1 = some (3, 1) := by kernel_rfl
theorem tf_thing_Thing_Base : tfield Try.prog 71 2 = some (3, 2) := by kernel_rfl
theorem tg_thing_Thing_Base : tfield' Try.prog 71 2 = some (3, 2) := by kernel_rfl
theorem tf_thing_Thing_Size : tfield Try.prog 71 3 = some (3, 3) := by kernel_rfl
theorem tg_thing_Thing_Size : tfield' Try.prog 71 3 = some (3, 3) := by kernel_rfl
theorem tf_thing_Thing_Used : tfield Try.prog 71 4 = some (3, 4) := by kernel_rfl
theorem tg_thing_Thing_Used : tfield' Try.prog 71 4 = some (3, 4) := by kernel_rfl
theorem tf_thing_Thing_From : tfield Try.prog 71 5 = some (3, 5) := by kernel_rfl
theorem tg_thing_Thing_From : tfield' Try.prog 71 5 = some (3, 5) := by kernel_rfl
theorem tf_thing_Thing_Badge : tfield Try.prog 71 6 = some (3, 6) := by kernel_rfl
theorem tg_thing_Thing_Badge : tfield' Try.prog 71 6 = some (3, 6) := by kernel_rfl
theorem tf_thing_Thing_Full : tfield Try.prog 71 7 = some (4, 7) := by kernel_rfl
theorem tg_thing_Thing_Full : tfield' Try.prog 71 7 = some (4, 7) := by kernel_rfl
theorem tf_thing_Thing_Word : tfield Try.prog 71 8 = some (68, 8) := by kernel_rfl
theorem tg_thing_Thing_Word : tfield' Try.prog 71 8 = some (68, 8) := by kernel_rfl
theorem tf_thing_Thing_Data : tfield Try.prog 71 9 = some (69, 9) := by kernel_rfl
theorem tg_thing_Thing_Data : tfield' Try.prog 71 9 = some (69, 9) := by kernel_rfl
theorem ts_S_thing_Thing : tsize Try.prog 25 = some 1 := by kernel_rfl
theorem tb_S_thing_Thing : tbytes Try.prog 25 = some 24 := by kernel_rfl
theorem ta_S_thing_Thing : tagg Try.prog 25 = some false := by kernel_rfl
theorem tz_S_thing_Thing : zeroFlat Try.prog 25 = some [.slice none 0 0] := by kernel_rfl
theorem tv_S_thing_Thing : tzero Try.prog 25 = some (.slice none 0 0) := by kernel_rfl
theorem tu_S_thing_Thing : Try.prog.underlying 25 = some (.slice 71) := by kernel_rfl
abbrev T_state_State : TypeId := 27
theorem ts_state_State : tsize Try.prog 27 = some 5 := by kernel_rfl
theorem tb_state_State : tbytes Try.prog 27 = some 72 := by kernel_rfl
theorem ta_state_State : tagg Try.prog 27 = some true := by kernel_rfl
theorem tz_state_State : zeroFlat Try.prog 27 = some [.int .i64 0, .int .i64 0, .int .i64 0, .slice none 0 0, .slice none 0 0] := by kernel_rfl
theorem tv_state_State : tzero Try.prog 27 = some (.agg #[.int .i64 0, .int .i64 0, .int .i64 0, .slice none 0 0, .slice none 0 0]) := by kernel_rfl
theorem tp_state_State : tplaces Try.prog 27 = some [(0, 3), (3, 1), (4, 1)] := by kernel_rfl
theorem tf_state_State_Geo : tfield Try.prog 27 0 = some (23, 0) := by kernel_rfl
theorem tg_state_State_Geo : tfield' Try.prog 27 0 = some (23, 0) := by kernel_rfl
theorem tf_state_State_Slots : tfield Try.prog 27 1 = some (24, 3) := by kernel_rfl
theorem tg_state_State_Slots : tfield' Try.prog 27 1 = some (24, 3) := by kernel_rfl
theorem tf_state_State_Things : tfield Try.prog 27 2 = some (25, 4) := by kernel_rfl
theorem tg_state_State_Things : tfield' Try.prog 27 2 = some (25, 4) := by kernel_rfl
abbrev T_cap_Cap : TypeId := 32
theorem te_cap_Cap : eqOk Try.prog 32 = some [.int .i64, .int .i64, .int .i64, .int .i64] := by kernel_rfl
theorem ts_cap_Cap : tsize Try.prog 32 = some 4 := by kernel_rfl
theorem tb_cap_Cap : tbytes Try.prog 32 = some 32 := by kernel_rfl
theorem ta_cap_Cap : tagg Try.prog 32 = some true := by kernel_rfl
theorem tz_cap_Cap : zeroFlat Try.prog 32 = some [.int .i64 0, .int .i64 0, .int .i64 0, .int .i64 0] := by kernel_rfl
theorem tv_cap_Cap : tzero Try.prog 32 = some (.agg #[.int .i64 0, .int .i64 0, .int .i64 0, .int .i64 0]) := by kernel_rfl
theorem tp_cap_Cap : tplaces Try.prog 32 = some [(0, 1), (1, 1), (2, 1), (3, 1)] := by kernel_rfl
theorem tf_cap_Cap_Type : tfield Try.prog 32 0 = some (3, 0) := by kernel_rfl
theorem tg_cap_Cap_Type : tfield' Try.prog 32 0 = some (3, 0) := by kernel_rfl
theorem tf_cap_Cap_Thing : tfield Try.prog 32 1 = some (3, 1) := by kernel_rfl
theorem tg_cap_Cap_Thing : tfield' Try.prog 32 1 = some (3, 1) := by kernel_rfl
theorem tf_cap_Cap_Rights : tfield Try.prog 32 2 = some (3, 2) := by kernel_rfl
theorem tg_cap_Cap_Rights : tfield' Try.prog 32 2 = some (3, 2) := by kernel_rfl
theorem tf_cap_Cap_Badge : tfield Try.prog 32 3 = some (3, 3) := by kernel_rfl
theorem tg_cap_Cap_Badge : tfield' Try.prog 32 3 = some (3, 3) := by kernel_rfl
abbrev T_S_int : TypeId := 35
theorem ts_S_int : tsize Try.prog 35 = some 1 := by kernel_rfl
theorem tb_S_int : tbytes Try.prog 35 = some 24 := by kernel_rfl
theorem ta_S_int : tagg Try.prog 35 = some false := by kernel_rfl
theorem tz_S_int : zeroFlat Try.prog 35 = some [.slice none 0 0] := by kernel_rfl
theorem tv_S_int : tzero Try.prog 35 = some (.slice none 0 0) := by kernel_rfl
theorem tu_S_int : Try.prog.underlying 35 = some (.slice 3) := by kernel_rfl
abbrev T_api_Errno : TypeId := 37
theorem ts_api_Errno : tsize Try.prog 37 = some 1 := by kernel_rfl
theorem tb_api_Errno : tbytes Try.prog 37 = some 8 := by kernel_rfl
theorem ta_api_Errno : tagg Try.prog 37 = some false := by kernel_rfl
theorem tz_api_Errno : zeroFlat Try.prog 37 = some [.int .i64 0] := by kernel_rfl
theorem tv_api_Errno : tzero Try.prog 37 = some (.int .i64 0) := by kernel_rfl
theorem tu_api_Errno : Try.prog.underlying 37 = some (.int .i64) := by kernel_rfl
abbrev T_path_Path : TypeId := 60
theorem ts_path_Path : tsize Try.prog 60 = some 1 := by kernel_rfl
theorem tb_path_Path : tbytes Try.prog 60 = some 24 := by kernel_rfl
theorem ta_path_Path : tagg Try.prog 60 = some true := by kernel_rfl
theorem tz_path_Path : zeroFlat Try.prog 60 = some [.slice none 0 0] := by kernel_rfl
theorem tv_path_Path : tzero Try.prog 60 = some (.agg #[.slice none 0 0]) := by kernel_rfl
theorem tp_path_Path : tplaces Try.prog 60 = some [(0, 1)] := by kernel_rfl
theorem tf_path_Path_L : tfield Try.prog 60 0 = some (35, 0) := by kernel_rfl
theorem tg_path_Path_L : tfield' Try.prog 60 0 = some (35, 0) := by kernel_rfl
abbrev T_uint64 : TypeId := 68
theorem ts_uint64 : tsize Try.prog 68 = some 1 := by kernel_rfl
theorem tb_uint64 : tbytes Try.prog 68 = some 8 := by kernel_rfl
theorem ta_uint64 : tagg Try.prog 68 = some false := by kernel_rfl
theorem tz_uint64 : zeroFlat Try.prog 68 = some [.int .u64 0] := by kernel_rfl
theorem tv_uint64 : tzero Try.prog 68 = some (.int .u64 0) := by kernel_rfl
theorem tu_uint64 : Try.prog.underlying 68 = some (.int .u64) := by kernel_rfl
abbrev T_A4_uint64 : TypeId := 69
theorem te_A4_uint64 : eqOk Try.prog 69 = some [.int .u64, .int .u64, .int .u64, .int .u64] := by kernel_rfl
theorem ts_A4_uint64 : tsize Try.prog 69 = some 4 := by kernel_rfl
theorem tb_A4_uint64 : tbytes Try.prog 69 = some 32 := by kernel_rfl
theorem ta_A4_uint64 : tagg Try.prog 69 = some true := by kernel_rfl
theorem tz_A4_uint64 : zeroFlat Try.prog 69 = some [.int .u64 0, .int .u64 0, .int .u64 0, .int .u64 0] := by kernel_rfl
theorem tv_A4_uint64 : tzero Try.prog 69 = some (.agg #[.int .u64 0, .int .u64 0, .int .u64 0, .int .u64 0]) := by kernel_rfl
theorem tu_A4_uint64 : Try.prog.underlying 69 = some (.array 4 68) := by kernel_rfl
abbrev T_S_path_Path : TypeId := 88
theorem ts_S_path_Path : tsize Try.prog 88 = some 1 := by kernel_rfl
theorem tb_S_path_Path : tbytes Try.prog 88 = some 24 := by kernel_rfl
theorem ta_S_path_Path : tagg Try.prog 88 = some false := by kernel_rfl
theorem tz_S_path_Path : zeroFlat Try.prog 88 = some [.slice none 0 0] := by kernel_rfl
theorem tv_S_path_Path : tzero Try.prog 88 = some (.slice none 0 0) := by kernel_rfl
theorem tu_S_path_Path : Try.prog.underlying 88 = some (.slice 60) := by kernel_rfl
abbrev T_forest_Forest : TypeId := 73
theorem ts_forest_Forest : tsize Try.prog 73 = some 1 := by kernel_rfl
theorem tb_forest_Forest : tbytes Try.prog 73 = some 24 := by kernel_rfl
theorem ta_forest_Forest : tagg Try.prog 73 = some true := by kernel_rfl
theorem tz_forest_Forest : zeroFlat Try.prog 73 = some [.slice none 0 0] := by kernel_rfl
theorem tv_forest_Forest : tzero Try.prog 73 = some (.agg #[.slice none 0 0]) := by kernel_rfl
theorem tp_forest_Forest : tplaces Try.prog 73 = some [(0, 1)] := by kernel_rfl
theorem tf_forest_Forest_Up : tfield Try.prog 73 0 = some (35, 0) := by kernel_rfl
theorem tg_forest_Forest_Up : tfield' Try.prog 73 0 = some (35, 0) := by kernel_rfl
abbrev T_S_bool : TypeId := 124
theorem ts_S_bool : tsize Try.prog 124 = some 1 := by kernel_rfl
theorem tb_S_bool : tbytes Try.prog 124 = some 24 := by kernel_rfl
theorem ta_S_bool : tagg Try.prog 124 = some false := by kernel_rfl
theorem tz_S_bool : zeroFlat Try.prog 124 = some [.slice none 0 0] := by kernel_rfl
theorem tv_S_bool : tzero Try.prog 124 = some (.slice none 0 0) := by kernel_rfl
theorem tu_S_bool : Try.prog.underlying 124 = some (.slice 4) := by kernel_rfl
abbrev T_map_int_bool : TypeId := 127
theorem ts_map_int_bool : tsize Try.prog 127 = some 1 := by kernel_rfl
theorem tb_map_int_bool : tbytes Try.prog 127 = some 8 := by kernel_rfl
theorem ta_map_int_bool : tagg Try.prog 127 = some false := by kernel_rfl
theorem tz_map_int_bool : zeroFlat Try.prog 127 = some [.map none] := by kernel_rfl
theorem tv_map_int_bool : tzero Try.prog 127 = some (.map none) := by kernel_rfl
theorem tu_map_int_bool : Try.prog.underlying 127 = some (.map 3 4) := by kernel_rfl
abbrev T_uint : TypeId := 47
theorem ts_uint : tsize Try.prog 47 = some 1 := by kernel_rfl
theorem tb_uint : tbytes Try.prog 47 = some 8 := by kernel_rfl
theorem ta_uint : tagg Try.prog 47 = some false := by kernel_rfl
theorem tz_uint : zeroFlat Try.prog 47 = some [.int .u64 0] := by kernel_rfl
theorem tv_uint : tzero Try.prog 47 = some (.int .u64 0) := by kernel_rfl
theorem tu_uint : Try.prog.underlying 47 = some (.int .u64) := by kernel_rfl
theorem beq_geo_Geo : ∀ (xo yo : Operand) (xs ys : List Value), fitsB [.int .i64, .int .i64, .int .i64] xs = true → fitsB [.int .i64, .int .i64, .int .i64] ys = true → aBin Try.prog .eql 23 xo yo (.agg xs.toArray) (.agg ys.toArray) = some (.bool (cellsEq xs ys)) := fun _ _ _ _ hx hy => bin_eql_agg te_geo_Geo ta_geo_Geo hx hy
theorem bne_geo_Geo : ∀ (xo yo : Operand) (xs ys : List Value), fitsB [.int .i64, .int .i64, .int .i64] xs = true → fitsB [.int .i64, .int .i64, .int .i64] ys = true → aBin Try.prog .neq 23 xo yo (.agg xs.toArray) (.agg ys.toArray) = some (.bool (!cellsEq xs ys)) := fun _ _ _ _ hx hy => bin_neq_agg te_geo_Geo ta_geo_Geo hx hy
theorem bs_geo_Geo : ∀ (ty : TypeId) (ev : Operand → Value) (g : AMem) (n : Nat) (parts : Array (Nat × Operand)), aOp Try.prog ty ev g n (.build 23 parts) = (fillP [(0, 1), (1, 1), (2, 1)] [.int .i64 0, .int .i64 0, .int .i64 0] (parts.toList.map fun p => (p.1, ev p.2))).map fun cs => (.agg cs.toArray, .none) := aOp_buildS tz_geo_Geo tp_geo_Geo
theorem beq_state_Slot : ∀ (xo yo : Operand) (xs ys : List Value), fitsB [.int .i64, .int .i64, .int .i64, .int .i64, .int .i64] xs = true → fitsB [.int .i64, .int .i64, .int .i64, .int .i64, .int .i64] ys = true → aBin Try.prog .eql 34 xo yo (.agg xs.toArray) (.agg ys.toArray) = some (.bool (cellsEq xs ys)) := fun _ _ _ _ hx hy => bin_eql_agg te_state_Slot ta_state_Slot hx hy
theorem bne_state_Slot : ∀ (xo yo : Operand) (xs ys : List Value), fitsB [.int .i64, .int .i64, .int .i64, .int .i64, .int .i64] xs = true → fitsB [.int .i64, .int .i64, .int .i64, .int .i64, .int .i64] ys = true → aBin Try.prog .neq 34 xo yo (.agg xs.toArray) (.agg ys.toArray) = some (.bool (!cellsEq xs ys)) := fun _ _ _ _ hx hy => bin_neq_agg te_state_Slot ta_state_Slot hx hy
theorem bs_state_Slot : ∀ (ty : TypeId) (ev : Operand → Value) (g : AMem) (n : Nat) (parts : Array (Nat × Operand)), aOp Try.prog ty ev g n (.build 34 parts) = (fillP [(0, 4), (4, 1)] [.int .i64 0, .int .i64 0, .int .i64 0, .int .i64 0, .int .i64 0] (parts.toList.map fun p => (p.1, ev p.2))).map fun cs => (.agg cs.toArray, .none) := aOp_buildS tz_state_Slot tp_state_Slot
theorem bl_S_state_Slot : ∀ (ty : TypeId) (ev : Operand → Value) (g : AMem) (n : Nat) (len : Nat) (parts : Array (Nat × Operand)), len * 5 ≤ 16777216 → aOp Try.prog ty ev g n (.buildSlice 24 len parts) = (fillS 5 (zeroRow [.int .i64 0, .int .i64 0, .int .i64 0, .int .i64 0, .int .i64 0] len) (parts.toList.map fun p => (p.1, ev p.2))).map fun cs => (.slice (some ⟨n, 0, none⟩) len 5, .new (.row cs true)) := fun ty ev g n len parts hb => aOp_buildL tu_S_state_Slot tz_state_Slot ts_state_Slot rfl ty ev g n len parts hb
theorem ap_S_state_Slot : ∀ (g : AMem) (n : Nat) (s x : Value), aAppend Try.prog g n 24 s x = appR g n 4 40 s (aRead g 5 x) := inst_append tu_S_state_Slot ts_state_Slot tb_state_Slot tv_state_Slot rfl
theorem mk_S_state_Slot : ∀ (n : Nat) (k k' : IntKind) (l c : Int), aMake Try.prog n 24 (.int k l) (.int k' c) = if 0 ≤ l ∧ l ≤ c ∧ c ≤ 70368744177664 ∧ 40 * c.toNat ≤ 70368744177664 then some (.slice (some ⟨n, 0, none⟩) l.toNat 5, .new (.row (zeroRow [.int .i64 0, .int .i64 0, .int .i64 0, .int .i64 0, .int .i64 0] l.toNat) true)) else none := inst_make tu_S_state_Slot ts_state_Slot tb_state_Slot tv_state_Slot rfl rfl
theorem sl_S_state_Slot : ∀ (ty : TypeId) (ev : Operand → Value) (g : AMem) (n : Nat) (x : Operand) (lo hi : Option Operand), aOp Try.prog ty ev g n (.slice 24 x lo hi none) = (slR 5 (ev x) (lo.map ev) (hi.map ev)).map fun v => (v, .none) := aOp_sliceS tu_S_state_Slot ts_state_Slot
theorem cp_S_state_Slot : ∀ (g : AMem) (d s : Value), aCopy Try.prog g 24 d s = cpR g 5 d (aRead g 5 s) := aCopy_eq tu_S_state_Slot ts_state_Slot
theorem beq_thing_Thing : ∀ (xo yo : Operand) (xs ys : List Value), fitsB [.int .i64, .int .i64, .int .i64, .int .i64, .int .i64, .int .i64, .int .i64, .bool, .int .u64, .int .u64, .int .u64, .int .u64, .int .u64] xs = true → fitsB [.int .i64, .int .i64, .int .i64, .int .i64, .int .i64, .int .i64, .int .i64, .bool, .int .u64, .int .u64, .int .u64, .int .u64, .int .u64] ys = true → aBin Try.prog .eql 71 xo yo (.agg xs.toArray) (.agg ys.toArray) = some (.bool (cellsEq xs ys)) := fun _ _ _ _ hx hy => bin_eql_agg te_thing_Thing ta_thing_Thing hx hy
theorem bne_thing_Thing : ∀ (xo yo : Operand) (xs ys : List Value), fitsB [.int .i64, .int .i64, .int .i64, .int .i64, .int .i64, .int .i64, .int .i64, .bool, .int .u64, .int .u64, .int .u64, .int .u64, .int .u64] xs = true → fitsB [.int .i64, .int .i64, .int .i64, .int .i64, .int .i64, .int .i64, .int .i64, .bool, .int .u64, .int .u64, .int .u64, .int .u64, .int .u64] ys = true → aBin Try.prog .neq 71 xo yo (.agg xs.toArray) (.agg ys.toArray) = some (.bool (!cellsEq xs ys)) := fun _ _ _ _ hx hy => bin_neq_agg te_thing_Thing ta_thing_Thing hx hy
theorem bs_thing_Thing : ∀ (ty : TypeId) (ev : Operand → Value) (g : AMem) (n : Nat) (parts : Array (Nat × Operand)), aOp Try.prog ty ev g n (.build 71 parts) = (fillP [(0, 1), (1, 1), (2, 1), (3, 1), (4, 1), (5, 1), (6, 1), (7, 1), (8, 1), (9, 4)] [.int .i64 0, .int .i64 0, .int .i64 0, .int .i64 0, .int .i64 0, .int .i64 0, .int .i64 0, .bool false, .int .u64 0, .int .u64 0, .int .u64 0, .int .u64 0, .int .u64 0] (parts.toList.map fun p => (p.1, ev p.2))).map fun cs => (.agg cs.toArray, .none) := aOp_buildS tz_thing_Thing tp_thing_Thing
theorem bl_S_thing_Thing : ∀ (ty : TypeId) (ev : Operand → Value) (g : AMem) (n : Nat) (len : Nat) (parts : Array (Nat × Operand)), len * 13 ≤ 16777216 → aOp Try.prog ty ev g n (.buildSlice 25 len parts) = (fillS 13 (zeroRow [.int .i64 0, .int .i64 0, .int .i64 0, .int .i64 0, .int .i64 0, .int .i64 0, .int .i64 0, .bool false, .int .u64 0, .int .u64 0, .int .u64 0, .int .u64 0, .int .u64 0] len) (parts.toList.map fun p => (p.1, ev p.2))).map fun cs => (.slice (some ⟨n, 0, none⟩) len 13, .new (.row cs true)) := fun ty ev g n len parts hb => aOp_buildL tu_S_thing_Thing tz_thing_Thing ts_thing_Thing rfl ty ev g n len parts hb
theorem ap_S_thing_Thing : ∀ (g : AMem) (n : Nat) (s x : Value), aAppend Try.prog g n 25 s x = appR g n 12 104 s (aRead g 13 x) := inst_append tu_S_thing_Thing ts_thing_Thing tb_thing_Thing tv_thing_Thing rfl
theorem mk_S_thing_Thing : ∀ (n : Nat) (k k' : IntKind) (l c : Int), aMake Try.prog n 25 (.int k l) (.int k' c) = if 0 ≤ l ∧ l ≤ c ∧ c ≤ 70368744177664 ∧ 104 * c.toNat ≤ 70368744177664 then some (.slice (some ⟨n, 0, none⟩) l.toNat 13, .new (.row (zeroRow [.int .i64 0, .int .i64 0, .int .i64 0, .int .i64 0, .int .i64 0, .int .i64 0, .int .i64 0, .bool false, .int .u64 0, .int .u64 0, .int .u64 0, .int .u64 0, .int .u64 0] l.toNat) true)) else none := inst_make tu_S_thing_Thing ts_thing_Thing tb_thing_Thing tv_thing_Thing rfl rfl
theorem sl_S_thing_Thing : ∀ (ty : TypeId) (ev : Operand → Value) (g : AMem) (n : Nat) (x : Operand) (lo hi : Option Operand), aOp Try.prog ty ev g n (.slice 25 x lo hi none) = (slR 13 (ev x) (lo.map ev) (hi.map ev)).map fun v => (v, .none) := aOp_sliceS tu_S_thing_Thing ts_thing_Thing
theorem cp_S_thing_Thing : ∀ (g : AMem) (d s : Value), aCopy Try.prog g 25 d s = cpR g 13 d (aRead g 13 s) := aCopy_eq tu_S_thing_Thing ts_thing_Thing
theorem bs_state_State : ∀ (ty : TypeId) (ev : Operand → Value) (g : AMem) (n : Nat) (parts : Array (Nat × Operand)), aOp Try.prog ty ev g n (.build 27 parts) = (fillP [(0, 3), (3, 1), (4, 1)] [.int .i64 0, .int .i64 0, .int .i64 0, .slice none 0 0, .slice none 0 0] (parts.toList.map fun p => (p.1, ev p.2))).map fun cs => (.agg cs.toArray, .none) := aOp_buildS tz_state_State tp_state_State
theorem beq_cap_Cap : ∀ (xo yo : Operand) (xs ys : List Value), fitsB [.int .i64, .int .i64, .int .i64, .int .i64] xs = true → fitsB [.int .i64, .int .i64, .int .i64, .int .i64] ys = true → aBin Try.prog .eql 32 xo yo (.agg xs.toArray) (.agg ys.toArray) = some (.bool (cellsEq xs ys)) := fun _ _ _ _ hx hy => bin_eql_agg te_cap_Cap ta_cap_Cap hx hy
theorem bne_cap_Cap : ∀ (xo yo : Operand) (xs ys : List Value), fitsB [.int .i64, .int .i64, .int .i64, .int .i64] xs = true → fitsB [.int .i64, .int .i64, .int .i64, .int .i64] ys = true → aBin Try.prog .neq 32 xo yo (.agg xs.toArray) (.agg ys.toArray) = some (.bool (!cellsEq xs ys)) := fun _ _ _ _ hx hy => bin_neq_agg te_cap_Cap ta_cap_Cap hx hy
theorem bs_cap_Cap : ∀ (ty : TypeId) (ev : Operand → Value) (g : AMem) (n : Nat) (parts : Array (Nat × Operand)), aOp Try.prog ty ev g n (.build 32 parts) = (fillP [(0, 1), (1, 1), (2, 1), (3, 1)] [.int .i64 0, .int .i64 0, .int .i64 0, .int .i64 0] (parts.toList.map fun p => (p.1, ev p.2))).map fun cs => (.agg cs.toArray, .none) := aOp_buildS tz_cap_Cap tp_cap_Cap
theorem bl_S_int : ∀ (ty : TypeId) (ev : Operand → Value) (g : AMem) (n : Nat) (len : Nat) (parts : Array (Nat × Operand)), len * 1 ≤ 16777216 → aOp Try.prog ty ev g n (.buildSlice 35 len parts) = (fillS 1 (zeroRow [.int .i64 0] len) (parts.toList.map fun p => (p.1, ev p.2))).map fun cs => (.slice (some ⟨n, 0, none⟩) len 1, .new (.row cs true)) := fun ty ev g n len parts hb => aOp_buildL tu_S_int tz_int ts_int rfl ty ev g n len parts hb
theorem ap_S_int : ∀ (g : AMem) (n : Nat) (s x : Value), aAppend Try.prog g n 35 s x = appR g n 0 8 s (aRead g 1 x) := inst_append tu_S_int ts_int tb_int tv_int rfl
theorem mk_S_int : ∀ (n : Nat) (k k' : IntKind) (l c : Int), aMake Try.prog n 35 (.int k l) (.int k' c) = if 0 ≤ l ∧ l ≤ c ∧ c ≤ 70368744177664 ∧ 8 * c.toNat ≤ 70368744177664 then some (.slice (some ⟨n, 0, none⟩) l.toNat 1, .new (.row (zeroRow [.int .i64 0] l.toNat) true)) else none := inst_make tu_S_int ts_int tb_int tv_int rfl rfl
theorem sl_S_int : ∀ (ty : TypeId) (ev : Operand → Value) (g : AMem) (n : Nat) (x : Operand) (lo hi : Option Operand), aOp Try.prog ty ev g n (.slice 35 x lo hi none) = (slR 1 (ev x) (lo.map ev) (hi.map ev)).map fun v => (v, .none) := aOp_sliceS tu_S_int ts_int
theorem cp_S_int : ∀ (g : AMem) (d s : Value), aCopy Try.prog g 35 d s = cpR g 1 d (aRead g 1 s) := aCopy_eq tu_S_int ts_int
theorem bs_path_Path : ∀ (ty : TypeId) (ev : Operand → Value) (g : AMem) (n : Nat) (parts : Array (Nat × Operand)), aOp Try.prog ty ev g n (.build 60 parts) = (fillP [(0, 1)] [.slice none 0 0] (parts.toList.map fun p => (p.1, ev p.2))).map fun cs => (.agg cs.toArray, .none) := aOp_buildS tz_path_Path tp_path_Path
theorem beq_A4_uint64 : ∀ (xo yo : Operand) (xs ys : List Value), fitsB [.int .u64, .int .u64, .int .u64, .int .u64] xs = true → fitsB [.int .u64, .int .u64, .int .u64, .int .u64] ys = true → aBin Try.prog .eql 69 xo yo (.agg xs.toArray) (.agg ys.toArray) = some (.bool (cellsEq xs ys)) := fun _ _ _ _ hx hy => bin_eql_agg te_A4_uint64 ta_A4_uint64 hx hy
theorem bne_A4_uint64 : ∀ (xo yo : Operand) (xs ys : List Value), fitsB [.int .u64, .int .u64, .int .u64, .int .u64] xs = true → fitsB [.int .u64, .int .u64, .int .u64, .int .u64] ys = true → aBin Try.prog .neq 69 xo yo (.agg xs.toArray) (.agg ys.toArray) = some (.bool (!cellsEq xs ys)) := fun _ _ _ _ hx hy => bin_neq_agg te_A4_uint64 ta_A4_uint64 hx hy
theorem bs_A4_uint64 : ∀ (ty : TypeId) (ev : Operand → Value) (g : AMem) (n : Nat) (parts : Array (Nat × Operand)), aOp Try.prog ty ev g n (.build 69 parts) = (fillS 1 [.int .u64 0, .int .u64 0, .int .u64 0, .int .u64 0] (parts.toList.map fun p => (p.1, ev p.2))).map fun cs => (.agg cs.toArray, .none) := aOp_buildA tz_A4_uint64 tu_A4_uint64 ts_uint64
theorem ia_A4_uint64 : ∀ (b o : Nat) (i : Int), aIndexAddrR Try.prog (some (.array 4 68)) (.pointer (some ⟨b, o, none⟩)) i = if 0 ≤ i ∧ i < (4 : Nat) then some (.pointer (some ⟨b, o + i.toNat * 1, none⟩)) else none := fun b o i => aIndexAddrR_array i ts_uint64
theorem sl_A4_uint64 : ∀ (ty : TypeId) (ev : Operand → Value) (g : AMem) (n : Nat) (x : Operand), aOp Try.prog ty ev g n (.slice 69 x none none none) = (saR g 4 1 (ev x)).map fun v => (v, .none) := aOp_sliceA tu_A4_uint64 ts_uint64
theorem bl_S_path_Path : ∀ (ty : TypeId) (ev : Operand → Value) (g : AMem) (n : Nat) (len : Nat) (parts : Array (Nat × Operand)), len * 1 ≤ 16777216 → aOp Try.prog ty ev g n (.buildSlice 88 len parts) = (fillS 1 (zeroRow [.slice none 0 0] len) (parts.toList.map fun p => (p.1, ev p.2))).map fun cs => (.slice (some ⟨n, 0, none⟩) len 1, .new (.row cs true)) := fun ty ev g n len parts hb => aOp_buildL tu_S_path_Path tz_path_Path ts_path_Path rfl ty ev g n len parts hb
theorem ap_S_path_Path : ∀ (g : AMem) (n : Nat) (s x : Value), aAppend Try.prog g n 88 s x = appR g n 0 24 s (aRead g 1 x) := inst_append tu_S_path_Path ts_path_Path tb_path_Path tv_path_Path rfl
theorem mk_S_path_Path : ∀ (n : Nat) (k k' : IntKind) (l c : Int), aMake Try.prog n 88 (.int k l) (.int k' c) = if 0 ≤ l ∧ l ≤ c ∧ c ≤ 70368744177664 ∧ 24 * c.toNat ≤ 70368744177664 then some (.slice (some ⟨n, 0, none⟩) l.toNat 1, .new (.row (zeroRow [.slice none 0 0] l.toNat) true)) else none := inst_make tu_S_path_Path ts_path_Path tb_path_Path tv_path_Path rfl rfl
theorem sl_S_path_Path : ∀ (ty : TypeId) (ev : Operand → Value) (g : AMem) (n : Nat) (x : Operand) (lo hi : Option Operand), aOp Try.prog ty ev g n (.slice 88 x lo hi none) = (slR 1 (ev x) (lo.map ev) (hi.map ev)).map fun v => (v, .none) := aOp_sliceS tu_S_path_Path ts_path_Path
theorem cp_S_path_Path : ∀ (g : AMem) (d s : Value), aCopy Try.prog g 88 d s = cpR g 1 d (aRead g 1 s) := aCopy_eq tu_S_path_Path ts_path_Path
theorem bs_forest_Forest : ∀ (ty : TypeId) (ev : Operand → Value) (g : AMem) (n : Nat) (parts : Array (Nat × Operand)), aOp Try.prog ty ev g n (.build 73 parts) = (fillP [(0, 1)] [.slice none 0 0] (parts.toList.map fun p => (p.1, ev p.2))).map fun cs => (.agg cs.toArray, .none) := aOp_buildS tz_forest_Forest tp_forest_Forest
theorem bl_S_bool : ∀ (ty : TypeId) (ev : Operand → Value) (g : AMem) (n : Nat) (len : Nat) (parts : Array (Nat × Operand)), len * 1 ≤ 16777216 → aOp Try.prog ty ev g n (.buildSlice 124 len parts) = (fillS 1 (zeroRow [.bool false] len) (parts.toList.map fun p => (p.1, ev p.2))).map fun cs => (.slice (some ⟨n, 0, none⟩) len 1, .new (.row cs true)) := fun ty ev g n len parts hb => aOp_buildL tu_S_bool tz_bool ts_bool rfl ty ev g n len parts hb
theorem ap_S_bool : ∀ (g : AMem) (n : Nat) (s x : Value), aAppend Try.prog g n 124 s x = appR g n 0 1 s (aRead g 1 x) := inst_append tu_S_bool ts_bool tb_bool tv_bool rfl
theorem mk_S_bool : ∀ (n : Nat) (k k' : IntKind) (l c : Int), aMake Try.prog n 124 (.int k l) (.int k' c) = if 0 ≤ l ∧ l ≤ c ∧ c ≤ 70368744177664 ∧ 1 * c.toNat ≤ 70368744177664 then some (.slice (some ⟨n, 0, none⟩) l.toNat 1, .new (.row (zeroRow [.bool false] l.toNat) true)) else none := inst_make tu_S_bool ts_bool tb_bool tv_bool rfl rfl
theorem sl_S_bool : ∀ (ty : TypeId) (ev : Operand → Value) (g : AMem) (n : Nat) (x : Operand) (lo hi : Option Operand), aOp Try.prog ty ev g n (.slice 124 x lo hi none) = (slR 1 (ev x) (lo.map ev) (hi.map ev)).map fun v => (v, .none) := aOp_sliceS tu_S_bool ts_bool
theorem cp_S_bool : ∀ (g : AMem) (d s : Value), aCopy Try.prog g 124 d s = cpR g 1 d (aRead g 1 s) := aCopy_eq tu_S_bool ts_bool
theorem q_int : (tsize Try.prog 3 = some 1) ∧ (tagg Try.prog 3 = some false) ∧ (zeroFlat Try.prog 3 = some [.int .i64 0]) ∧ (Try.prog.underlying 3 = some (.int .i64)) := ⟨ts_int, ta_int, tz_int, tu_int⟩
theorem q_bool : (tsize Try.prog 4 = some 1) ∧ (tagg Try.prog 4 = some false) ∧ (zeroFlat Try.prog 4 = some [.bool false]) ∧ (Try.prog.underlying 4 = some (.bool)) := ⟨ts_bool, ta_bool, tz_bool, tu_bool⟩
theorem q_geo_Geo : (tsize Try.prog 23 = some 3) ∧ (tagg Try.prog 23 = some true) ∧ (zeroFlat Try.prog 23 = some [.int .i64 0, .int .i64 0, .int .i64 0]) ∧ (tplaces Try.prog 23 = some [(0, 1), (1, 1), (2, 1)]) ∧ (tfield Try.prog 23 0 = some (3, 0)) ∧ (tfield' Try.prog 23 0 = some (3, 0)) ∧ (tfield Try.prog 23 1 = some (3, 1)) ∧ (tfield' Try.prog 23 1 = some (3, 1)) ∧ (tfield Try.prog 23 2 = some (3, 2)) ∧ (tfield' Try.prog 23 2 = some (3, 2)) ∧ (∀ (ty : TypeId) (ev : Operand → Value) (g : AMem) (n : Nat) (parts : Array (Nat × Operand)), aOp Try.prog ty ev g n (.build 23 parts) = (fillP [(0, 1), (1, 1), (2, 1)] [.int .i64 0, .int .i64 0, .int .i64 0] (parts.toList.map fun p => (p.1, ev p.2))).map fun cs => (.agg cs.toArray, .none)) := ⟨ts_geo_Geo, ta_geo_Geo, tz_geo_Geo, tp_geo_Geo, tf_geo_Geo_Threads, tg_geo_Geo_Threads, tf_geo_Geo_Slots, tg_geo_Geo_Slots, tf_geo_Geo_Things, tg_geo_Geo_Things, bs_geo_Geo⟩
theorem q_S_state_Slot : (tsize Try.prog 24 = some 1) ∧ (tagg Try.prog 24 = some false) ∧ (zeroFlat Try.prog 24 = some [.slice none 0 0]) ∧ (Try.prog.underlying 24 = some (.slice 34)) ∧ (∀ (ty : TypeId) (ev : Operand → Value) (g : AMem) (n : Nat) (len : Nat) (parts : Array (Nat × Operand)), len * 5 ≤ 16777216 → aOp Try.prog ty ev g n (.buildSlice 24 len parts) = (fillS 5 (zeroRow [.int .i64 0, .int .i64 0, .int .i64 0, .int .i64 0, .int .i64 0] len) (parts.toList.map fun p => (p.1, ev p.2))).map fun cs => (.slice (some ⟨n, 0, none⟩) len 5, .new (.row cs true))) ∧ (∀ (g : AMem) (n : Nat) (s x : Value), aAppend Try.prog g n 24 s x = appR g n 4 40 s (aRead g 5 x)) ∧ (∀ (n : Nat) (k k' : IntKind) (l c : Int), aMake Try.prog n 24 (.int k l) (.int k' c) = if 0 ≤ l ∧ l ≤ c ∧ c ≤ 70368744177664 ∧ 40 * c.toNat ≤ 70368744177664 then some (.slice (some ⟨n, 0, none⟩) l.toNat 5, .new (.row (zeroRow [.int .i64 0, .int .i64 0, .int .i64 0, .int .i64 0, .int .i64 0] l.toNat) true)) else none) ∧ (∀ (ty : TypeId) (ev : Operand → Value) (g : AMem) (n : Nat) (x : Operand) (lo hi : Option Operand), aOp Try.prog ty ev g n (.slice 24 x lo hi none) = (slR 5 (ev x) (lo.map ev) (hi.map ev)).map fun v => (v, .none)) ∧ (∀ (g : AMem) (d s : Value), aCopy Try.prog g 24 d s = cpR g 5 d (aRead g 5 s)) := ⟨ts_S_state_Slot, ta_S_state_Slot, tz_S_state_Slot, tu_S_state_Slot, bl_S_state_Slot, ap_S_state_Slot, mk_S_state_Slot, sl_S_state_Slot, cp_S_state_Slot⟩
theorem q_S_thing_Thing : (tsize Try.prog 25 = some 1) ∧ (tagg Try.prog 25 = some false) ∧ (zeroFlat Try.prog 25 = some [.slice none 0 0]) ∧ (Try.prog.underlying 25 = some (.slice 71)) ∧ (∀ (ty : TypeId) (ev : Operand → Value) (g : AMem) (n : Nat) (len : Nat) (parts : Array (Nat × Operand)), len * 13 ≤ 16777216 → aOp Try.prog ty ev g n (.buildSlice 25 len parts) = (fillS 13 (zeroRow [.int .i64 0, .int .i64 0, .int .i64 0, .int .i64 0, .int .i64 0, .int .i64 0, .int .i64 0, .bool false, .int .u64 0, .int .u64 0, .int .u64 0, .int .u64 0, .int .u64 0] len) (parts.toList.map fun p => (p.1, ev p.2))).map fun cs => (.slice (some ⟨n, 0, none⟩) len 13, .new (.row cs true))) ∧ (∀ (g : AMem) (n : Nat) (s x : Value), aAppend Try.prog g n 25 s x = appR g n 12 104 s (aRead g 13 x)) ∧ (∀ (n : Nat) (k k' : IntKind) (l c : Int), aMake Try.prog n 25 (.int k l) (.int k' c) = if 0 ≤ l ∧ l ≤ c ∧ c ≤ 70368744177664 ∧ 104 * c.toNat ≤ 70368744177664 then some (.slice (some ⟨n, 0, none⟩) l.toNat 13, .new (.row (zeroRow [.int .i64 0, .int .i64 0, .int .i64 0, .int .i64 0, .int .i64 0, .int .i64 0, .int .i64 0, .bool false, .int .u64 0, .int .u64 0, .int .u64 0, .int .u64 0, .int .u64 0] l.toNat) true)) else none) ∧ (∀ (ty : TypeId) (ev : Operand → Value) (g : AMem) (n : Nat) (x : Operand) (lo hi : Option Operand), aOp Try.prog ty ev g n (.slice 25 x lo hi none) = (slR 13 (ev x) (lo.map ev) (hi.map ev)).map fun v => (v, .none)) ∧ (∀ (g : AMem) (d s : Value), aCopy Try.prog g 25 d s = cpR g 13 d (aRead g 13 s)) := ⟨ts_S_thing_Thing, ta_S_thing_Thing, tz_S_thing_Thing, tu_S_thing_Thing, bl_S_thing_Thing, ap_S_thing_Thing, mk_S_thing_Thing, sl_S_thing_Thing, cp_S_thing_Thing⟩
theorem q_state_State : (tsize Try.prog 27 = some 5) ∧ (tagg Try.prog 27 = some true) ∧ (zeroFlat Try.prog 27 = some [.int .i64 0, .int .i64 0, .int .i64 0, .slice none 0 0, .slice none 0 0]) ∧ (tplaces Try.prog 27 = some [(0, 3), (3, 1), (4, 1)]) ∧ (tfield Try.prog 27 0 = some (23, 0)) ∧ (tfield' Try.prog 27 0 = some (23, 0)) ∧ (tfield Try.prog 27 1 = some (24, 3)) ∧ (tfield' Try.prog 27 1 = some (24, 3)) ∧ (tfield Try.prog 27 2 = some (25, 4)) ∧ (tfield' Try.prog 27 2 = some (25, 4)) ∧ (∀ (ty : TypeId) (ev : Operand → Value) (g : AMem) (n : Nat) (parts : Array (Nat × Operand)), aOp Try.prog ty ev g n (.build 27 parts) = (fillP [(0, 3), (3, 1), (4, 1)] [.int .i64 0, .int .i64 0, .int .i64 0, .slice none 0 0, .slice none 0 0] (parts.toList.map fun p => (p.1, ev p.2))).map fun cs => (.agg cs.toArray, .none)) := ⟨ts_state_State, ta_state_State, tz_state_State, tp_state_State, tf_state_State_Geo, tg_state_State_Geo, tf_state_State_Slots, tg_state_State_Slots, tf_state_State_Things, tg_state_State_Things, bs_state_State⟩
theorem q_cap_Cap : (tsize Try.prog 32 = some 4) ∧ (tagg Try.prog 32 = some true) ∧ (zeroFlat Try.prog 32 = some [.int .i64 0, .int .i64 0, .int .i64 0, .int .i64 0]) ∧ (tplaces Try.prog 32 = some [(0, 1), (1, 1), (2, 1), (3, 1)]) ∧ (tfield Try.prog 32 0 = some (3, 0)) ∧ (tfield' Try.prog 32 0 = some (3, 0)) ∧ (tfield Try.prog 32 1 = some (3, 1)) ∧ (tfield' Try.prog 32 1 = some (3, 1)) ∧ (tfield Try.prog 32 2 = some (3, 2)) ∧ (tfield' Try.prog 32 2 = some (3, 2)) ∧ (tfield Try.prog 32 3 = some (3, 3)) ∧ (tfield' Try.prog 32 3 = some (3, 3)) ∧ (∀ (ty : TypeId) (ev : Operand → Value) (g : AMem) (n : Nat) (parts : Array (Nat × Operand)), aOp Try.prog ty ev g n (.build 32 parts) = (fillP [(0, 1), (1, 1), (2, 1), (3, 1)] [.int .i64 0, .int .i64 0, .int .i64 0, .int .i64 0] (parts.toList.map fun p => (p.1, ev p.2))).map fun cs => (.agg cs.toArray, .none)) := ⟨ts_cap_Cap, ta_cap_Cap, tz_cap_Cap, tp_cap_Cap, tf_cap_Cap_Type, tg_cap_Cap_Type, tf_cap_Cap_Thing, tg_cap_Cap_Thing, tf_cap_Cap_Rights, tg_cap_Cap_Rights, tf_cap_Cap_Badge, tg_cap_Cap_Badge, bs_cap_Cap⟩
theorem q_state_Slot : (tsize Try.prog 34 = some 5) ∧ (tagg Try.prog 34 = some true) ∧ (zeroFlat Try.prog 34 = some [.int .i64 0, .int .i64 0, .int .i64 0, .int .i64 0, .int .i64 0]) ∧ (tplaces Try.prog 34 = some [(0, 4), (4, 1)]) ∧ (tfield Try.prog 34 0 = some (32, 0)) ∧ (tfield' Try.prog 34 0 = some (32, 0)) ∧ (tfield Try.prog 34 1 = some (3, 4)) ∧ (tfield' Try.prog 34 1 = some (3, 4)) ∧ (∀ (ty : TypeId) (ev : Operand → Value) (g : AMem) (n : Nat) (parts : Array (Nat × Operand)), aOp Try.prog ty ev g n (.build 34 parts) = (fillP [(0, 4), (4, 1)] [.int .i64 0, .int .i64 0, .int .i64 0, .int .i64 0, .int .i64 0] (parts.toList.map fun p => (p.1, ev p.2))).map fun cs => (.agg cs.toArray, .none)) := ⟨ts_state_Slot, ta_state_Slot, tz_state_Slot, tp_state_Slot, tf_state_Slot_Cap, tg_state_Slot_Cap, tf_state_Slot_Up, tg_state_Slot_Up, bs_state_Slot⟩
theorem q_S_int : (tsize Try.prog 35 = some 1) ∧ (tagg Try.prog 35 = some false) ∧ (zeroFlat Try.prog 35 = some [.slice none 0 0]) ∧ (Try.prog.underlying 35 = some (.slice 3)) ∧ (∀ (ty : TypeId) (ev : Operand → Value) (g : AMem) (n : Nat) (len : Nat) (parts : Array (Nat × Operand)), len * 1 ≤ 16777216 → aOp Try.prog ty ev g n (.buildSlice 35 len parts) = (fillS 1 (zeroRow [.int .i64 0] len) (parts.toList.map fun p => (p.1, ev p.2))).map fun cs => (.slice (some ⟨n, 0, none⟩) len 1, .new (.row cs true))) ∧ (∀ (g : AMem) (n : Nat) (s x : Value), aAppend Try.prog g n 35 s x = appR g n 0 8 s (aRead g 1 x)) ∧ (∀ (n : Nat) (k k' : IntKind) (l c : Int), aMake Try.prog n 35 (.int k l) (.int k' c) = if 0 ≤ l ∧ l ≤ c ∧ c ≤ 70368744177664 ∧ 8 * c.toNat ≤ 70368744177664 then some (.slice (some ⟨n, 0, none⟩) l.toNat 1, .new (.row (zeroRow [.int .i64 0] l.toNat) true)) else none) ∧ (∀ (ty : TypeId) (ev : Operand → Value) (g : AMem) (n : Nat) (x : Operand) (lo hi : Option Operand), aOp Try.prog ty ev g n (.slice 35 x lo hi none) = (slR 1 (ev x) (lo.map ev) (hi.map ev)).map fun v => (v, .none)) ∧ (∀ (g : AMem) (d s : Value), aCopy Try.prog g 35 d s = cpR g 1 d (aRead g 1 s)) := ⟨ts_S_int, ta_S_int, tz_S_int, tu_S_int, bl_S_int, ap_S_int, mk_S_int, sl_S_int, cp_S_int⟩
theorem q_api_Errno : (tsize Try.prog 37 = some 1) ∧ (tagg Try.prog 37 = some false) ∧ (zeroFlat Try.prog 37 = some [.int .i64 0]) ∧ (Try.prog.underlying 37 = some (.int .i64)) := ⟨ts_api_Errno, ta_api_Errno, tz_api_Errno, tu_api_Errno⟩
theorem q_uint : (tsize Try.prog 47 = some 1) ∧ (tagg Try.prog 47 = some false) ∧ (zeroFlat Try.prog 47 = some [.int .u64 0]) ∧ (Try.prog.underlying 47 = some (.int .u64)) := ⟨ts_uint, ta_uint, tz_uint, tu_uint⟩
theorem q_path_Path : (tsize Try.prog 60 = some 1) ∧ (tagg Try.prog 60 = some true) ∧ (zeroFlat Try.prog 60 = some [.slice none 0 0]) ∧ (tplaces Try.prog 60 = some [(0, 1)]) ∧ (tfield Try.prog 60 0 = some (35, 0)) ∧ (tfield' Try.prog 60 0 = some (35, 0)) ∧ (∀ (ty : TypeId) (ev : Operand → Value) (g : AMem) (n : Nat) (parts : Array (Nat × Operand)), aOp Try.prog ty ev g n (.build 60 parts) = (fillP [(0, 1)] [.slice none 0 0] (parts.toList.map fun p => (p.1, ev p.2))).map fun cs => (.agg cs.toArray, .none)) := ⟨ts_path_Path, ta_path_Path, tz_path_Path, tp_path_Path, tf_path_Path_L, tg_path_Path_L, bs_path_Path⟩
theorem q_uint64 : (tsize Try.prog 68 = some 1) ∧ (tagg Try.prog 68 = some false) ∧ (zeroFlat Try.prog 68 = some [.int .u64 0]) ∧ (Try.prog.underlying 68 = some (.int .u64)) := ⟨ts_uint64, ta_uint64, tz_uint64, tu_uint64⟩
theorem q_A4_uint64 : (tsize Try.prog 69 = some 4) ∧ (tagg Try.prog 69 = some true) ∧ (zeroFlat Try.prog 69 = some [.int .u64 0, .int .u64 0, .int .u64 0, .int .u64 0]) ∧ (Try.prog.underlying 69 = some (.array 4 68)) ∧ (∀ (ty : TypeId) (ev : Operand → Value) (g : AMem) (n : Nat) (parts : Array (Nat × Operand)), aOp Try.prog ty ev g n (.build 69 parts) = (fillS 1 [.int .u64 0, .int .u64 0, .int .u64 0, .int .u64 0] (parts.toList.map fun p => (p.1, ev p.2))).map fun cs => (.agg cs.toArray, .none)) ∧ (∀ (b o : Nat) (i : Int), aIndexAddrR Try.prog (some (.array 4 68)) (.pointer (some ⟨b, o, none⟩)) i = if 0 ≤ i ∧ i < (4 : Nat) then some (.pointer (some ⟨b, o + i.toNat * 1, none⟩)) else none) ∧ (∀ (ty : TypeId) (ev : Operand → Value) (g : AMem) (n : Nat) (x : Operand), aOp Try.prog ty ev g n (.slice 69 x none none none) = (saR g 4 1 (ev x)).map fun v => (v, .none)) := ⟨ts_A4_uint64, ta_A4_uint64, tz_A4_uint64, tu_A4_uint64, bs_A4_uint64, ia_A4_uint64, sl_A4_uint64⟩
theorem q_thing_Thing : (tsize Try.prog 71 = some 13) ∧ (tagg Try.prog 71 = some true) ∧ (zeroFlat Try.prog 71 = some [.int .i64 0, .int .i64 0, .int .i64 0, .int .i64 0, .int .i64 0, .int .i64 0, .int .i64 0, .bool false, .int .u64 0, .int .u64 0, .int .u64 0, .int .u64 0, .int .u64 0]) ∧ (tplaces Try.prog 71 = some [(0, 1), (1, 1), (2, 1), (3, 1), (4, 1), (5, 1), (6, 1), (7, 1), (8, 1), (9, 4)]) ∧ (tfield Try.prog 71 0 = some (3, 0)) ∧ (tfield' Try.prog 71 0 = some (3, 0)) ∧ (tfield Try.prog 71 1 = some (3, 1)) ∧ (tfield' Try.prog 71 1 = some (3, 1)) ∧ (tfield Try.prog 71 2 = some (3, 2)) ∧ (tfield' Try.prog 71 2 = some (3, 2)) ∧ (tfield Try.prog 71 3 = some (3, 3)) ∧ (tfield' Try.prog 71 3 = some (3, 3)) ∧ (tfield Try.prog 71 4 = some (3, 4)) ∧ (tfield' Try.prog 71 4 = some (3, 4)) ∧ (tfield Try.prog 71 5 = some (3, 5)) ∧ (tfield' Try.prog 71 5 = some (3, 5)) ∧ (tfield Try.prog 71 6 = some (3, 6)) ∧ (tfield' Try.prog 71 6 = some (3, 6)) ∧ (tfield Try.prog 71 7 = some (4, 7)) ∧ (tfield' Try.prog 71 7 = some (4, 7)) ∧ (tfield Try.prog 71 8 = some (68, 8)) ∧ (tfield' Try.prog 71 8 = some (68, 8)) ∧ (tfield Try.prog 71 9 = some (69, 9)) ∧ (tfield' Try.prog 71 9 = some (69, 9)) ∧ (∀ (ty : TypeId) (ev : Operand → Value) (g : AMem) (n : Nat) (parts : Array (Nat × Operand)), aOp Try.prog ty ev g n (.build 71 parts) = (fillP [(0, 1), (1, 1), (2, 1), (3, 1), (4, 1), (5, 1), (6, 1), (7, 1), (8, 1), (9, 4)] [.int .i64 0, .int .i64 0, .int .i64 0, .int .i64 0, .int .i64 0, .int .i64 0, .int .i64 0, .bool false, .int .u64 0, .int .u64 0, .int .u64 0, .int .u64 0, .int .u64 0] (parts.toList.map fun p => (p.1, ev p.2))).map fun cs => (.agg cs.toArray, .none)) := ⟨ts_thing_Thing, ta_thing_Thing, tz_thing_Thing, tp_thing_Thing, tf_thing_Thing_Type, tg_thing_Thing_Type, tf_thing_Thing_Bits, tg_thing_Thing_Bits, tf_thing_Thing_Base, tg_thing_Thing_Base, tf_thing_Thing_Size, tg_thing_Thing_Size, tf_thing_Thing_Used, tg_thing_Thing_Used, tf_thing_Thing_From, tg_thing_Thing_From, tf_thing_Thing_Badge, tg_thing_Thing_Badge, tf_thing_Thing_Full, tg_thing_Thing_Full, tf_thing_Thing_Word, tg_thing_Thing_Word, tf_thing_Thing_Data, tg_thing_Thing_Data, bs_thing_Thing⟩
theorem q_forest_Forest : (tsize Try.prog 73 = some 1) ∧ (tagg Try.prog 73 = some true) ∧ (zeroFlat Try.prog 73 = some [.slice none 0 0]) ∧ (tplaces Try.prog 73 = some [(0, 1)]) ∧ (tfield Try.prog 73 0 = some (35, 0)) ∧ (tfield' Try.prog 73 0 = some (35, 0)) ∧ (∀ (ty : TypeId) (ev : Operand → Value) (g : AMem) (n : Nat) (parts : Array (Nat × Operand)), aOp Try.prog ty ev g n (.build 73 parts) = (fillP [(0, 1)] [.slice none 0 0] (parts.toList.map fun p => (p.1, ev p.2))).map fun cs => (.agg cs.toArray, .none)) := ⟨ts_forest_Forest, ta_forest_Forest, tz_forest_Forest, tp_forest_Forest, tf_forest_Forest_Up, tg_forest_Forest_Up, bs_forest_Forest⟩
theorem q_S_path_Path : (tsize Try.prog 88 = some 1) ∧ (tagg Try.prog 88 = some false) ∧ (zeroFlat Try.prog 88 = some [.slice none 0 0]) ∧ (Try.prog.underlying 88 = some (.slice 60)) ∧ (∀ (ty : TypeId) (ev : Operand → Value) (g : AMem) (n : Nat) (len : Nat) (parts : Array (Nat × Operand)), len * 1 ≤ 16777216 → aOp Try.prog ty ev g n (.buildSlice 88 len parts) = (fillS 1 (zeroRow [.slice none 0 0] len) (parts.toList.map fun p => (p.1, ev p.2))).map fun cs => (.slice (some ⟨n, 0, none⟩) len 1, .new (.row cs true))) ∧ (∀ (g : AMem) (n : Nat) (s x : Value), aAppend Try.prog g n 88 s x = appR g n 0 24 s (aRead g 1 x)) ∧ (∀ (n : Nat) (k k' : IntKind) (l c : Int), aMake Try.prog n 88 (.int k l) (.int k' c) = if 0 ≤ l ∧ l ≤ c ∧ c ≤ 70368744177664 ∧ 24 * c.toNat ≤ 70368744177664 then some (.slice (some ⟨n, 0, none⟩) l.toNat 1, .new (.row (zeroRow [.slice none 0 0] l.toNat) true)) else none) ∧ (∀ (ty : TypeId) (ev : Operand → Value) (g : AMem) (n : Nat) (x : Operand) (lo hi : Option Operand), aOp Try.prog ty ev g n (.slice 88 x lo hi none) = (slR 1 (ev x) (lo.map ev) (hi.map ev)).map fun v => (v, .none)) ∧ (∀ (g : AMem) (d s : Value), aCopy Try.prog g 88 d s = cpR g 1 d (aRead g 1 s)) := ⟨ts_S_path_Path, ta_S_path_Path, tz_S_path_Path, tu_S_path_Path, bl_S_path_Path, ap_S_path_Path, mk_S_path_Path, sl_S_path_Path, cp_S_path_Path⟩
theorem q_S_bool : (tsize Try.prog 124 = some 1) ∧ (tagg Try.prog 124 = some false) ∧ (zeroFlat Try.prog 124 = some [.slice none 0 0]) ∧ (Try.prog.underlying 124 = some (.slice 4)) ∧ (∀ (ty : TypeId) (ev : Operand → Value) (g : AMem) (n : Nat) (len : Nat) (parts : Array (Nat × Operand)), len * 1 ≤ 16777216 → aOp Try.prog ty ev g n (.buildSlice 124 len parts) = (fillS 1 (zeroRow [.bool false] len) (parts.toList.map fun p => (p.1, ev p.2))).map fun cs => (.slice (some ⟨n, 0, none⟩) len 1, .new (.row cs true))) ∧ (∀ (g : AMem) (n : Nat) (s x : Value), aAppend Try.prog g n 124 s x = appR g n 0 1 s (aRead g 1 x)) ∧ (∀ (n : Nat) (k k' : IntKind) (l c : Int), aMake Try.prog n 124 (.int k l) (.int k' c) = if 0 ≤ l ∧ l ≤ c ∧ c ≤ 70368744177664 ∧ 1 * c.toNat ≤ 70368744177664 then some (.slice (some ⟨n, 0, none⟩) l.toNat 1, .new (.row (zeroRow [.bool false] l.toNat) true)) else none) ∧ (∀ (ty : TypeId) (ev : Operand → Value) (g : AMem) (n : Nat) (x : Operand) (lo hi : Option Operand), aOp Try.prog ty ev g n (.slice 124 x lo hi none) = (slR 1 (ev x) (lo.map ev) (hi.map ev)).map fun v => (v, .none)) ∧ (∀ (g : AMem) (d s : Value), aCopy Try.prog g 124 d s = cpR g 1 d (aRead g 1 s)) := ⟨ts_S_bool, ta_S_bool, tz_S_bool, tu_S_bool, bl_S_bool, ap_S_bool, mk_S_bool, sl_S_bool, cp_S_bool⟩
theorem q_map_int_bool : (tsize Try.prog 127 = some 1) ∧ (tagg Try.prog 127 = some false) ∧ (zeroFlat Try.prog 127 = some [.map none]) ∧ (Try.prog.underlying 127 = some (.map 3 4)) := ⟨ts_map_int_bool, ta_map_int_bool, tz_map_int_bool, tu_map_int_bool⟩
/-- reeve/reevelaw13.FindWays -/
abbrev f_reevelaw13_FindWays : FuncId := 10
def rc_reevelaw13_FindWaysl0 : RCode :=
  (.seq
    (.seq
      (.region [⟨some 35, .none, true, 3, .move (.tmp 8)⟩,
        ⟨some 36, .none, true, 88, .move (.tmp 7)⟩,
        ⟨some 37, .none, true, 3, .call { callee := .builtin .len, args := #[.tmp 36], argTypes := #[88] }⟩,
        ⟨some 38, .none, true, 4, .binOp .lss 3 (.tmp 35) (.tmp 37) 3⟩])
    (.keep [1, 2, 3, 7, 8, 38]
    (.cond (.tmp 38)
      .skip
      (.exit 0))))
  (.seq
    (.block 1
      (.seq
        (.region [⟨some 42, .none, false, 27, .load 27 (.tmp 3)⟩,
          ⟨some 43, .none, false, 3, .move (.tmp 1)⟩,
          ⟨some 44, .none, false, 88, .move (.tmp 7)⟩,
          ⟨some 45, .none, false, 3, .move (.tmp 8)⟩,
          ⟨some 46, .none, false, 0, .indexAddr 88 (.tmp 44) (.tmp 45)⟩,
          ⟨some 47, .none, false, 60, .load 60 (.tmp 46)⟩,
          ⟨some 48, .none, true, 61, .call { callee := .value (.func 28), args := #[.tmp 42, .tmp 43, .tmp 47], argTypes := #[27, 3, 60] }⟩,
          ⟨some 41, .none, true, 61, .move (.tmp 48)⟩,
          ⟨some 49, .none, true, 3, .extract (.tmp 41) 0⟩,
          ⟨some 50, .none, true, 37, .extract (.tmp 41) 1⟩,
          ⟨some 9, .none, true, 3, .assign (.tmp 49)⟩,
          ⟨some 10, .none, true, 37, .assign (.tmp 50)⟩])
      (.keep [1, 2, 3, 7, 8, 9, 10]
      (.seq
        (.region [⟨some 51, .none, true, 37, .move (.tmp 10)⟩,
          ⟨some 52, .none, true, 4, .binOp .neq 37 (.tmp 51) (.const (.int .i64 0)) 37⟩,
          ⟨some 53, .none, true, 4, .move (.tmp 52)⟩,
          ⟨some 54, .some 53 false, true, 3, .move (.tmp 9)⟩,
          ⟨some 55, .some 53 false, true, 3, .move (.tmp 2)⟩,
          ⟨some 56, .some 53 false, true, 4, .binOp .neq 3 (.tmp 54) (.tmp 55) 3⟩,
          ⟨some 57, .none, true, 4, .pick (.tmp 53) (.const (.bool true)) (.tmp 56)⟩,
          ⟨some 58, .none, true, 4, .move (.tmp 57)⟩,
          ⟨some 59, .some 58 false, true, 88, .move (.tmp 7)⟩,
          ⟨some 60, .some 58 false, true, 3, .move (.tmp 8)⟩,
          ⟨some 61, .some 58 false, true, 0, .indexAddr 88 (.tmp 59) (.tmp 60)⟩,
          ⟨some 62, .some 58 false, true, 60, .load 60 (.tmp 61)⟩,
          ⟨some 63, .some 58 false, true, 4, .call { callee := .value (.func 45), args := #[.tmp 62], argTypes := #[60] }⟩,
          ⟨some 64, .some 58 false, true, 4, .unOp .not 4 (.tmp 63)⟩,
          ⟨some 65, .none, true, 4, .pick (.tmp 58) (.const (.bool true)) (.tmp 64)⟩])
      (.keep [1, 2, 3, 7, 8, 65]
      (.cond (.tmp 65)
        (.seq
          (.region [⟨some 6, .none, true, 4, .assign (.const (.bool false))⟩])
        .ret)
        .skip))))))
  (.keep [1, 2, 3, 7, 8]
  (.region [⟨some 39, .none, true, 3, .move (.tmp 8)⟩,
    ⟨some 40, .none, true, 3, .binOp .add 3 (.tmp 39) (.const (.int .i64 1)) 3⟩,
    ⟨some 8, .none, true, 3, .assign (.tmp 40)⟩]))))
def rc_reevelaw13_FindWaysl1 : RCode :=
  (.seq
    (.seq
      (.region [⟨some 69, .none, true, 3, .move (.tmp 13)⟩,
        ⟨some 70, .none, true, 35, .move (.tmp 11)⟩,
        ⟨some 71, .none, true, 3, .call { callee := .builtin .len, args := #[.tmp 70], argTypes := #[35] }⟩,
        ⟨some 72, .none, true, 4, .binOp .lss 3 (.tmp 69) (.tmp 71) 3⟩])
    (.keep [2, 3, 7, 11, 12, 13, 72]
    (.cond (.tmp 72)
      .skip
      (.exit 2))))
  (.seq
    (.block 3
      (.seq
        (.region [⟨some 75, .none, true, 4, .move (.tmp 12)⟩,
          ⟨some 76, .none, true, 4, .move (.tmp 75)⟩,
          ⟨some 77, .some 76 false, true, 35, .move (.tmp 11)⟩,
          ⟨some 78, .some 76 false, true, 3, .move (.tmp 13)⟩,
          ⟨some 79, .some 76 false, true, 0, .indexAddr 35 (.tmp 77) (.tmp 78)⟩,
          ⟨some 80, .some 76 false, true, 3, .load 3 (.tmp 79)⟩,
          ⟨some 81, .some 76 false, true, 3, .move (.tmp 2)⟩,
          ⟨some 82, .some 76 false, true, 4, .binOp .eql 3 (.tmp 80) (.tmp 81) 3⟩,
          ⟨some 83, .none, true, 4, .pick (.tmp 76) (.const (.bool true)) (.tmp 82)⟩,
          ⟨some 12, .none, true, 4, .assign (.tmp 83)⟩])
      (.keep [2, 3, 7, 11, 12, 13]
      (.seq
        (.region [⟨some 84, .none, false, 27, .load 27 (.tmp 3)⟩,
          ⟨some 85, .none, false, 35, .move (.tmp 11)⟩,
          ⟨some 86, .none, false, 3, .move (.tmp 13)⟩,
          ⟨some 87, .none, false, 0, .indexAddr 35 (.tmp 85) (.tmp 86)⟩,
          ⟨some 88, .none, false, 3, .load 3 (.tmp 87)⟩,
          ⟨some 89, .none, true, 3, .call { callee := .value (.func 20), args := #[.tmp 84, .tmp 88], argTypes := #[27, 3] }⟩,
          ⟨some 90, .none, true, 4, .binOp .lss 3 (.tmp 89) (.const (.int .i64 0)) 3⟩])
      (.keep [2, 3, 7, 11, 12, 13, 90]
      (.cond (.tmp 90)
        (.seq
          (.region [⟨some 6, .none, true, 4, .assign (.const (.bool false))⟩])
        .ret)
        .skip))))))
  (.keep [2, 3, 7, 11, 12, 13]
  (.region [⟨some 73, .none, true, 3, .move (.tmp 13)⟩,
    ⟨some 74, .none, true, 3, .binOp .add 3 (.tmp 73) (.const (.int .i64 1)) 3⟩,
    ⟨some 13, .none, true, 3, .assign (.tmp 74)⟩]))))
def rc_reevelaw13_FindWays : RCode :=
  (.seq
    (.region [⟨some 3, .none, true, 0, .box 27 (.tmp 0)⟩,
      ⟨some 6, .none, true, 4, .assign (.const (.bool false))⟩])
  (.keep [1, 2, 3]
  (.seq
    (.seq
      (.region [⟨some 14, .none, true, 4, .call { callee := .value (.func 27), args := #[], argTypes := #[] }⟩,
        ⟨some 15, .none, true, 4, .unOp .not 4 (.tmp 14)⟩])
    (.keep [1, 2, 3, 15]
    (.cond (.tmp 15)
      (.seq
        (.region [⟨some 6, .none, true, 4, .assign (.const (.bool false))⟩])
      .ret)
      .skip)))
  (.seq
    (.seq
      (.region [⟨some 16, .none, true, 0, .fieldAddr 27 (.tmp 3) 1⟩,
        ⟨some 17, .none, true, 24, .load 24 (.tmp 16)⟩,
        ⟨some 18, .none, true, 3, .call { callee := .builtin .len, args := #[.tmp 17], argTypes := #[24] }⟩,
        ⟨some 19, .none, true, 4, .binOp .gtr 3 (.tmp 18) (.const (.int .i64 100)) 3⟩,
        ⟨some 20, .none, true, 4, .move (.tmp 19)⟩,
        ⟨some 21, .some 20 false, true, 0, .fieldAddr 27 (.tmp 3) 2⟩,
        ⟨some 22, .some 20 false, true, 25, .load 25 (.tmp 21)⟩,
        ⟨some 23, .some 20 false, true, 3, .call { callee := .builtin .len, args := #[.tmp 22], argTypes := #[25] }⟩,
        ⟨some 24, .some 20 false, true, 4, .binOp .gtr 3 (.tmp 23) (.const (.int .i64 50)) 3⟩,
        ⟨some 25, .none, true, 4, .pick (.tmp 20) (.const (.bool true)) (.tmp 24)⟩,
        ⟨some 26, .none, true, 4, .move (.tmp 25)⟩,
        ⟨some 27, .some 26 false, true, 27, .load 27 (.tmp 3)⟩,
        ⟨some 28, .some 26 false, true, 4, .call { callee := .value (.func 14), args := #[.tmp 27], argTypes := #[27] }⟩,
        ⟨some 29, .some 26 false, true, 4, .unOp .not 4 (.tmp 28)⟩,
        ⟨some 30, .none, true, 4, .pick (.tmp 26) (.const (.bool true)) (.tmp 29)⟩])
    (.keep [1, 2, 3, 30]
    (.cond (.tmp 30)
      (.seq
        (.region [⟨some 6, .none, true, 4, .assign (.const (.bool true))⟩])
      .ret)
      .skip)))
  (.seq
    (.region [⟨some 31, .none, true, 27, .load 27 (.tmp 3)⟩,
      ⟨some 32, .none, true, 3, .move (.tmp 1)⟩,
      ⟨some 33, .none, true, 3, .move (.tmp 2)⟩,
      ⟨some 34, .none, true, 88, .call { callee := .value (.func 44), args := #[.tmp 31, .tmp 32, .tmp 33], argTypes := #[27, 3, 3] }⟩,
      ⟨some 7, .none, true, 88, .assign (.tmp 34)⟩])
  (.keep [1, 2, 3, 7]
  (.seq
    (.seq
      (.region [⟨some 8, .none, true, 3, .assign (.const (.int .i64 0))⟩])
    (.keep [1, 2, 3, 7, 8]
    (.block 0
      (.loop [1, 2, 3, 7, 8] rc_reevelaw13_FindWaysl0))))
  (.seq
    (.region [⟨some 66, .none, true, 27, .load 27 (.tmp 3)⟩,
      ⟨some 67, .none, true, 3, .move (.tmp 1)⟩,
      ⟨some 68, .none, true, 35, .call { callee := .value (.func 46), args := #[.tmp 66, .tmp 67], argTypes := #[27, 3] }⟩,
      ⟨some 11, .none, true, 35, .assign (.tmp 68)⟩])
  (.keep [2, 3, 7, 11]
  (.seq
    (.region [⟨some 12, .none, true, 4, .assign (.const (.bool false))⟩])
  (.keep [2, 3, 7, 11, 12]
  (.seq
    (.seq
      (.region [⟨some 13, .none, true, 3, .assign (.const (.int .i64 0))⟩])
    (.keep [2, 3, 7, 11, 12, 13]
    (.block 2
      (.loop [2, 3, 7, 11, 12, 13] rc_reevelaw13_FindWaysl1))))
  (.seq
    (.region [⟨some 91, .none, true, 4, .move (.tmp 12)⟩,
      ⟨some 92, .none, true, 88, .move (.tmp 7)⟩,
      ⟨some 93, .none, true, 3, .call { callee := .builtin .len, args := #[.tmp 92], argTypes := #[88] }⟩,
      ⟨some 94, .none, true, 4, .binOp .gtr 3 (.tmp 93) (.const (.int .i64 0)) 3⟩,
      ⟨some 95, .none, true, 4, .binOp .eql 4 (.tmp 91) (.tmp 94) 4⟩,
      ⟨some 6, .none, true, 4, .assign (.tmp 95)⟩])
  .ret)))))))))))))
theorem t_reevelaw13_FindWays : FnT Try.prog f_reevelaw13_FindWays rc_reevelaw13_FindWays [.tmp 6] 3 := ⟨⟨[], Try.f10, _, Try.func10, rfl, by kernel_rfl, by kernel_rfl, by kernel_rfl, rfl, by decide⟩, by kernel_rfl⟩
/-- reeve/state.Good -/
abbrev f_state_Good : FuncId := 14
def rc_state_Good : RCode :=
  (.seq
    (.region [⟨some 1, .none, true, 0, .box 27 (.tmp 0)⟩,
      ⟨some 2, .none, true, 4, .assign (.const (.bool false))⟩])
  (.keep [1]
  (.seq
    (.seq
      (.region [⟨some 3, .none, true, 0, .fieldAddr 27 (.tmp 1) 0⟩,
        ⟨some 4, .none, true, 23, .load 23 (.tmp 3)⟩,
        ⟨some 5, .none, true, 4, .call { callee := .value (.func 18), args := #[.tmp 4], argTypes := #[23] }⟩,
        ⟨some 6, .none, true, 4, .unOp .not 4 (.tmp 5)⟩,
        ⟨some 7, .none, true, 4, .move (.tmp 6)⟩,
        ⟨some 8, .some 7 false, true, 0, .fieldAddr 27 (.tmp 1) 1⟩,
        ⟨some 9, .some 7 false, true, 24, .load 24 (.tmp 8)⟩,
        ⟨some 10, .some 7 false, true, 3, .call { callee := .builtin .len, args := #[.tmp 9], argTypes := #[24] }⟩,
        ⟨some 11, .some 7 false, true, 0, .fieldAddr 27 (.tmp 1) 0⟩,
        ⟨some 12, .some 7 false, true, 0, .fieldAddr 23 (.tmp 11) 1⟩,
        ⟨some 13, .some 7 false, true, 3, .load 3 (.tmp 12)⟩,
        ⟨some 14, .some 7 false, true, 4, .binOp .neq 3 (.tmp 10) (.tmp 13) 3⟩,
        ⟨some 15, .none, true, 4, .pick (.tmp 7) (.const (.bool true)) (.tmp 14)⟩,
        ⟨some 16, .none, true, 4, .move (.tmp 15)⟩,
        ⟨some 17, .some 16 false, true, 0, .fieldAddr 27 (.tmp 1) 2⟩,
        ⟨some 18, .some 16 false, true, 25, .load 25 (.tmp 17)⟩,
        ⟨some 19, .some 16 false, true, 3, .call { callee := .builtin .len, args := #[.tmp 18], argTypes := #[25] }⟩,
        ⟨some 20, .some 16 false, true, 0, .fieldAddr 27 (.tmp 1) 0⟩,
        ⟨some 21, .some 16 false, true, 0, .fieldAddr 23 (.tmp 20) 2⟩,
        ⟨some 22, .some 16 false, true, 3, .load 3 (.tmp 21)⟩,
        ⟨some 23, .some 16 false, true, 4, .binOp .neq 3 (.tmp 19) (.tmp 22) 3⟩,
        ⟨some 24, .none, true, 4, .pick (.tmp 16) (.const (.bool true)) (.tmp 23)⟩])
    (.keep [1, 24]
    (.cond (.tmp 24)
      (.seq
        (.region [⟨some 2, .none, true, 4, .assign (.const (.bool false))⟩])
      .ret)
      .skip)))
  (.seq
    (.region [⟨some 25, .none, true, 27, .load 27 (.tmp 1)⟩,
      ⟨some 26, .none, true, 4, .call { callee := .value (.func 50), args := #[.tmp 25], argTypes := #[27] }⟩,
      ⟨some 27, .none, true, 4, .move (.tmp 26)⟩,
      ⟨some 28, .some 27 true, true, 27, .load 27 (.tmp 1)⟩,
      ⟨some 29, .some 27 true, true, 4, .call { callee := .value (.func 51), args := #[.tmp 28], argTypes := #[27] }⟩,
      ⟨some 30, .none, true, 4, .pick (.tmp 27) (.tmp 29) (.const (.bool false))⟩,
      ⟨some 31, .none, true, 4, .move (.tmp 30)⟩,
      ⟨some 32, .some 31 true, true, 27, .load 27 (.tmp 1)⟩,
      ⟨some 33, .some 31 true, true, 4, .call { callee := .value (.func 52), args := #[.tmp 32], argTypes := #[27] }⟩,
      ⟨some 34, .none, true, 4, .pick (.tmp 31) (.tmp 33) (.const (.bool false))⟩,
      ⟨some 35, .none, true, 4, .move (.tmp 34)⟩,
      ⟨some 36, .some 35 true, true, 27, .load 27 (.tmp 1)⟩,
      ⟨some 37, .some 35 true, true, 4, .call { callee := .value (.func 53), args := #[.tmp 36], argTypes := #[27] }⟩,
      ⟨some 38, .some 35 true, true, 4, .unOp .not 4 (.tmp 37)⟩,
      ⟨some 39, .none, true, 4, .pick (.tmp 35) (.tmp 38) (.const (.bool false))⟩,
      ⟨some 40, .none, true, 4, .move (.tmp 39)⟩,
      ⟨some 41, .some 40 true, true, 27, .load 27 (.tmp 1)⟩,
      ⟨some 42, .some 40 true, true, 73, .call { callee := .value (.func 32), args := #[.tmp 41], argTypes := #[27] }⟩,
      ⟨some 43, .some 40 true, true, 4, .call { callee := .value (.func 34), args := #[.tmp 42], argTypes := #[73] }⟩,
      ⟨some 44, .none, true, 4, .pick (.tmp 40) (.tmp 43) (.const (.bool false))⟩,
      ⟨some 45, .none, true, 4, .move (.tmp 44)⟩,
      ⟨some 46, .some 45 true, true, 27, .load 27 (.tmp 1)⟩,
      ⟨some 47, .some 45 true, true, 4, .call { callee := .value (.func 54), args := #[.tmp 46], argTypes := #[27] }⟩,
      ⟨some 48, .none, true, 4, .pick (.tmp 45) (.tmp 47) (.const (.bool false))⟩,
      ⟨some 2, .none, true, 4, .assign (.tmp 48)⟩])
  .ret))))
theorem t_state_Good : FnT Try.prog f_state_Good rc_state_Good [.tmp 2] 1 := ⟨⟨[], Try.f14, _, Try.func14, rfl, by kernel_rfl, by kernel_rfl, by kernel_rfl, rfl, by decide⟩, by kernel_rfl⟩
/-- reeve/cap.None -/
abbrev f_cap_None : FuncId := 15
def rc_cap_None : RCode :=
  (.seq
    (.region [⟨some 1, .none, true, 0, .box 32 (.tmp 0)⟩,
      ⟨some 2, .none, true, 4, .assign (.const (.bool false))⟩])
  (.keep [1]
  (.seq
    (.region [⟨some 3, .none, true, 32, .load 32 (.tmp 1)⟩,
      ⟨some 4, .none, true, 32, .build 32 #[]⟩,
      ⟨some 5, .none, true, 4, .binOp .eql 32 (.tmp 3) (.tmp 4) 32⟩,
      ⟨some 2, .none, true, 4, .assign (.tmp 5)⟩])
  .ret)))
theorem t_cap_None : FnT Try.prog f_cap_None rc_cap_None [.tmp 2] 1 := ⟨⟨[], Try.f15, _, Try.func15, rfl, by kernel_rfl, by kernel_rfl, by kernel_rfl, rfl, by decide⟩, by kernel_rfl⟩
/-- reeve/state.New -/
abbrev f_state_New : FuncId := 17
def rc_state_Newl0 : RCode :=
  (.seq
    (.region [⟨some 38, .none, true, 0, .binOp .lss 3 (.tmp 37) (.tmp 36) 3⟩])
  (.keep [2, 4, 6, 8, 36, 37, 38]
  (.seq
    (.cond (.tmp 38)
      .skip
      (.exit 0))
  (.keep [2, 4, 6, 8, 36, 37]
  (.seq
    (.block 1
      (.seq
        (.region [⟨some 39, .none, true, 3, .move (.tmp 37)⟩,
          ⟨some 9, .none, true, 3, .assign (.tmp 39)⟩])
      (.keep [2, 4, 6, 8, 9, 36, 37]
      (.region [⟨some 40, .none, true, 0, .fieldAddr 27 (.tmp 8) 1⟩,
        ⟨some 41, .none, true, 24, .load 24 (.tmp 40)⟩,
        ⟨some 42, .none, true, 3, .move (.tmp 9)⟩,
        ⟨some 43, .none, true, 0, .indexAddr 24 (.tmp 41) (.tmp 42)⟩,
        ⟨some 44, .none, true, 0, .fieldAddr 34 (.tmp 43) 1⟩,
        ⟨none, .none, true, 0, .store 3 (.tmp 44) (.const (.int .i64 (-1)))⟩]))))
  (.keep [2, 4, 6, 8, 36, 37]
  (.region [⟨some 45, .none, true, 3, .binOp .add 3 (.tmp 37) (.const (.int .i64 1)) 3⟩,
    ⟨some 37, .none, true, 3, .move (.tmp 45)⟩])))))))
def rc_state_Newl1 : RCode :=
  (.seq
    (.region [⟨some 68, .none, true, 4, .binOp .lss 3 (.tmp 67) (.tmp 66) 3⟩])
  (.keep [2, 4, 8, 10, 66, 67, 68]
  (.seq
    (.cond (.tmp 68)
      .skip
      (.exit 2))
  (.keep [2, 4, 8, 10, 66, 67]
  (.seq
    (.block 3
      (.seq
        (.region [⟨some 69, .none, true, 3, .move (.tmp 67)⟩,
          ⟨some 11, .none, true, 3, .assign (.tmp 69)⟩])
      (.keep [2, 4, 8, 10, 11, 66, 67]
      (.seq
        (.region [⟨some 70, .none, true, 23, .load 23 (.tmp 2)⟩,
          ⟨some 71, .none, true, 3, .move (.tmp 11)⟩,
          ⟨some 72, .none, true, 3, .call { callee := .value (.func 19), args := #[.tmp 70, .tmp 71], argTypes := #[23, 3] }⟩,
          ⟨some 12, .none, true, 3, .assign (.tmp 72)⟩])
      (.keep [2, 4, 8, 10, 11, 12, 66, 67]
      (.seq
        (.region [⟨some 74, .none, false, 0, .fieldAddr 27 (.tmp 8) 2⟩,
          ⟨some 75, .none, false, 25, .load 25 (.tmp 74)⟩,
          ⟨some 76, .none, false, 3, .move (.tmp 11)⟩,
          ⟨some 77, .none, false, 3, .binOp .add 3 (.const (.int .i64 2)) (.tmp 76) 3⟩,
          ⟨some 78, .none, false, 3, .move (.tmp 12)⟩,
          ⟨some 79, .none, false, 94, .call { callee := .value (.func 56), args := #[.const (.int .i64 2), .const (.int .i64 3), .tmp 78], argTypes := #[3, 3, 3] }⟩,
          ⟨some 73, .none, false, 94, .move (.tmp 79)⟩,
          ⟨some 80, .none, false, 71, .extract (.tmp 73) 0⟩,
          ⟨some 81, .none, false, 4, .extract (.tmp 73) 1⟩,
          ⟨some 82, .none, true, 0, .indexAddr 25 (.tmp 75) (.tmp 77)⟩,
          ⟨none, .none, true, 0, .store 71 (.tmp 82) (.tmp 80)⟩])
      (.keep [2, 4, 8, 10, 12, 66, 67]
      (.region [⟨some 83, .none, true, 0, .fieldAddr 27 (.tmp 8) 1⟩,
        ⟨some 84, .none, true, 24, .load 24 (.tmp 83)⟩,
        ⟨some 85, .none, true, 3, .move (.tmp 12)⟩,
        ⟨some 86, .none, true, 3, .binOp .add 3 (.tmp 85) (.const (.int .i64 1)) 3⟩,
        ⟨some 87, .none, true, 32, .build 32 #[(0, .const (.int .i64 3)), (1, .const (.int .i64 1)), (2, .const (.int .i64 7))]⟩,
        ⟨some 88, .none, true, 3, .move (.tmp 10)⟩,
        ⟨some 89, .none, true, 3, .binOp .add 3 (.tmp 88) (.const (.int .i64 1)) 3⟩,
        ⟨some 90, .none, true, 34, .build 34 #[(0, .tmp 87), (1, .tmp 89)]⟩,
        ⟨some 91, .none, true, 0, .indexAddr 24 (.tmp 84) (.tmp 86)⟩,
        ⟨none, .none, true, 0, .store 34 (.tmp 91) (.tmp 90)⟩]))))))))
  (.keep [2, 4, 8, 10, 66, 67]
  (.region [⟨some 92, .none, true, 3, .binOp .add 3 (.tmp 67) (.const (.int .i64 1)) 3⟩,
    ⟨some 67, .none, true, 3, .move (.tmp 92)⟩])))))))
def rc_state_New : RCode :=
  (.seq
    (.region [⟨some 2, .none, true, 0, .box 23 (.tmp 0)⟩,
      ⟨some 4, .none, true, 0, .alloc 27⟩,
      ⟨some 5, .none, true, 37, .assign (.const (.int .i64 0))⟩])
  (.keep [1, 2, 4]
  (.seq
    (.region [⟨some 14, .none, true, 3, .move (.tmp 1)⟩,
      ⟨some 15, .none, true, 94, .call { callee := .value (.func 56), args := #[.const (.int .i64 1), .tmp 14, .const (.int .i64 0)], argTypes := #[3, 3, 3] }⟩,
      ⟨some 13, .none, true, 94, .move (.tmp 15)⟩,
      ⟨some 16, .none, true, 71, .extract (.tmp 13) 0⟩,
      ⟨some 17, .none, true, 4, .extract (.tmp 13) 1⟩,
      ⟨some 6, .none, true, 0, .alloc 71⟩,
      ⟨none, .none, true, 0, .store 71 (.tmp 6) (.tmp 16)⟩,
      ⟨some 7, .none, true, 4, .assign (.tmp 17)⟩])
  (.keep [2, 4, 6, 7]
  (.seq
    (.seq
      (.region [⟨some 18, .none, true, 23, .load 23 (.tmp 2)⟩,
        ⟨some 19, .none, true, 4, .call { callee := .value (.func 18), args := #[.tmp 18], argTypes := #[23] }⟩,
        ⟨some 20, .none, true, 4, .unOp .not 4 (.tmp 19)⟩,
        ⟨some 21, .none, true, 4, .move (.tmp 20)⟩,
        ⟨some 22, .some 21 false, true, 4, .move (.tmp 7)⟩,
        ⟨some 23, .some 21 false, true, 4, .unOp .not 4 (.tmp 22)⟩,
        ⟨some 24, .none, true, 4, .pick (.tmp 21) (.const (.bool true)) (.tmp 23)⟩])
    (.keep [2, 4, 6, 24]
    (.cond (.tmp 24)
      (.seq
        (.region [⟨some 25, .none, true, 27, .build 27 #[]⟩,
          ⟨none, .none, true, 0, .store 27 (.tmp 4) (.tmp 25)⟩,
          ⟨some 5, .none, true, 37, .assign (.const (.int .i64 1))⟩])
      .ret)
      .skip)))
  (.seq
    (.regionD [⟨some 26, .none, 23, .load 23 (.tmp 2), 0, []⟩,
      ⟨some 27, .none, 0, .fieldAddr 23 (.tmp 2) 1, 1, []⟩,
      ⟨some 28, .none, 3, .load 3 (.tmp 27), 2, []⟩,
      ⟨some 29, .none, 24, .makeSlice 24 (.tmp 28) (.tmp 28), 3, [0]⟩,
      ⟨some 30, .none, 0, .fieldAddr 23 (.tmp 2) 2, 4, []⟩,
      ⟨some 31, .none, 3, .load 3 (.tmp 30), 5, [3]⟩,
      ⟨some 32, .none, 25, .makeSlice 25 (.tmp 31) (.tmp 31), 6, [0, 2, 3]⟩,
      ⟨some 33, .none, 27, .build 27 #[(0, .tmp 26), (1, .tmp 29), (2, .tmp 32)], 7, []⟩,
      ⟨some 8, .none, 0, .alloc 27, 8, [0, 2, 3, 5, 6]⟩,
      ⟨none, .none, 0, .store 27 (.tmp 8) (.tmp 33), 9, []⟩])
  (.keep [2, 4, 6, 8]
  (.seq
    (.seq
      (.region [⟨some 34, .none, true, 0, .fieldAddr 27 (.tmp 8) 1⟩,
        ⟨some 35, .none, true, 24, .load 24 (.tmp 34)⟩,
        ⟨some 36, .none, true, 3, .call { callee := .builtin .len, args := #[.tmp 35], argTypes := #[24] }⟩,
        ⟨some 37, .none, true, 3, .move (.const (.int .i64 0))⟩])
    (.keep [2, 4, 6, 8, 36, 37]
    (.block 0
      (.loop [2, 4, 6, 8, 36, 37] rc_state_Newl0))))
  (.seq
    (.region [⟨some 46, .none, true, 0, .fieldAddr 27 (.tmp 8) 2⟩,
      ⟨some 47, .none, true, 25, .load 25 (.tmp 46)⟩,
      ⟨some 48, .none, true, 71, .load 71 (.tmp 6)⟩,
      ⟨some 49, .none, true, 0, .indexAddr 25 (.tmp 47) (.const (.int .i64 0))⟩,
      ⟨none, .none, true, 0, .store 71 (.tmp 49) (.tmp 48)⟩])
  (.keep [2, 4, 8]
  (.seq
    (.region [⟨some 51, .none, false, 0, .fieldAddr 27 (.tmp 8) 2⟩,
      ⟨some 52, .none, false, 25, .load 25 (.tmp 51)⟩,
      ⟨some 53, .none, false, 94, .call { callee := .value (.func 56), args := #[.const (.int .i64 3), .const (.int .i64 0), .const (.int .i64 0)], argTypes := #[3, 3, 3] }⟩,
      ⟨some 50, .none, false, 94, .move (.tmp 53)⟩,
      ⟨some 54, .none, false, 71, .extract (.tmp 50) 0⟩,
      ⟨some 55, .none, false, 4, .extract (.tmp 50) 1⟩,
      ⟨some 56, .none, true, 0, .indexAddr 25 (.tmp 52) (.const (.int .i64 1))⟩,
      ⟨none, .none, true, 0, .store 71 (.tmp 56) (.tmp 54)⟩])
  (.keep [2, 4, 8]
  (.seq
    (.region [⟨some 57, .none, true, 23, .load 23 (.tmp 2)⟩,
      ⟨some 58, .none, true, 3, .call { callee := .value (.func 19), args := #[.tmp 57, .const (.int .i64 0)], argTypes := #[23, 3] }⟩,
      ⟨some 10, .none, true, 3, .assign (.tmp 58)⟩])
  (.keep [2, 4, 8, 10]
  (.seq
    (.region [⟨some 59, .none, true, 0, .fieldAddr 27 (.tmp 8) 1⟩,
      ⟨some 60, .none, true, 24, .load 24 (.tmp 59)⟩,
      ⟨some 61, .none, true, 3, .move (.tmp 10)⟩,
      ⟨some 62, .none, true, 32, .build 32 #[(0, .const (.int .i64 1)), (1, .const (.int .i64 0)), (2, .const (.int .i64 7))]⟩,
      ⟨some 63, .none, true, 0, .indexAddr 24 (.tmp 60) (.tmp 61)⟩,
      ⟨some 64, .none, true, 0, .fieldAddr 34 (.tmp 63) 0⟩,
      ⟨none, .none, true, 0, .store 32 (.tmp 64) (.tmp 62)⟩])
  (.keep [2, 4, 8, 10]
  (.seq
    (.seq
      (.region [⟨some 65, .none, true, 0, .fieldAddr 23 (.tmp 2) 0⟩,
        ⟨some 66, .none, true, 3, .load 3 (.tmp 65)⟩,
        ⟨some 67, .none, true, 3, .move (.const (.int .i64 0))⟩])
    (.keep [2, 4, 8, 10, 66, 67]
    (.block 2
      (.loop [2, 4, 8, 10, 66, 67] rc_state_Newl1))))
  (.seq
    (.region [⟨some 93, .none, true, 0, .fieldAddr 27 (.tmp 8) 1⟩,
      ⟨some 94, .none, true, 24, .load 24 (.tmp 93)⟩,
      ⟨some 95, .none, true, 3, .move (.tmp 10)⟩,
      ⟨some 96, .none, true, 3, .binOp .add 3 (.tmp 95) (.const (.int .i64 1)) 3⟩,
      ⟨some 97, .none, true, 0, .indexAddr 24 (.tmp 94) (.tmp 96)⟩,
      ⟨some 98, .none, true, 0, .fieldAddr 34 (.tmp 97) 1⟩,
      ⟨none, .none, true, 0, .store 3 (.tmp 98) (.const (.int .i64 (-1)))⟩])
  (.keep [4, 8]
  (.seq
    (.region [⟨some 99, .none, true, 27, .load 27 (.tmp 8)⟩,
      ⟨none, .none, true, 0, .store 27 (.tmp 4) (.tmp 99)⟩,
      ⟨some 5, .none, true, 37, .assign (.const (.int .i64 0))⟩])
  .ret))))))))))))))))))))
theorem t_state_New : FnT Try.prog f_state_New rc_state_New [.cell 4 27, .tmp 5] 2 := ⟨⟨[4], Try.f17, _, Try.func17, rfl, by kernel_rfl, by kernel_rfl, by kernel_rfl, rfl, by decide⟩, by kernel_rfl⟩
/-- reeve/geo.Good -/
abbrev f_geo_Good : FuncId := 18
def rc_geo_Good : RCode :=
  (.seq
    (.region [⟨some 1, .none, true, 0, .box 23 (.tmp 0)⟩,
      ⟨some 2, .none, true, 4, .assign (.const (.bool false))⟩])
  (.keep [1]
  (.seq
    (.region [⟨some 3, .none, true, 0, .fieldAddr 23 (.tmp 1) 0⟩,
      ⟨some 4, .none, true, 3, .load 3 (.tmp 3)⟩,
      ⟨some 5, .none, true, 4, .call { callee := .value (.func 57), args := #[.tmp 4, .const (.int .i64 1), .const (.int .i64 4)], argTypes := #[3, 3, 3] }⟩,
      ⟨some 6, .none, true, 4, .move (.tmp 5)⟩,
      ⟨some 7, .some 6 true, true, 0, .fieldAddr 23 (.tmp 1) 1⟩,
      ⟨some 8, .some 6 true, true, 3, .load 3 (.tmp 7)⟩,
      ⟨some 9, .some 6 true, true, 0, .fieldAddr 23 (.tmp 1) 0⟩,
      ⟨some 10, .some 6 true, true, 3, .load 3 (.tmp 9)⟩,
      ⟨some 11, .some 6 true, true, 3, .binOp .mul 3 (.const (.int .i64 8)) (.tmp 10) 3⟩,
      ⟨some 12, .some 6 true, true, 4, .call { callee := .value (.func 57), args := #[.tmp 8, .tmp 11, .const (.int .i64 96)], argTypes := #[3, 3, 3] }⟩,
      ⟨some 13, .none, true, 4, .pick (.tmp 6) (.tmp 12) (.const (.bool false))⟩,
      ⟨some 14, .none, true, 4, .move (.tmp 13)⟩,
      ⟨some 15, .some 14 true, true, 0, .fieldAddr 23 (.tmp 1) 1⟩,
      ⟨some 16, .some 14 true, true, 3, .load 3 (.tmp 15)⟩,
      ⟨some 17, .some 14 true, true, 3, .binOp .rem 3 (.tmp 16) (.const (.int .i64 8)) 3⟩,
      ⟨some 18, .some 14 true, true, 4, .binOp .eql 3 (.tmp 17) (.const (.int .i64 0)) 3⟩,
      ⟨some 19, .none, true, 4, .pick (.tmp 14) (.tmp 18) (.const (.bool false))⟩,
      ⟨some 20, .none, true, 4, .move (.tmp 19)⟩,
      ⟨some 21, .some 20 true, true, 0, .fieldAddr 23 (.tmp 1) 2⟩,
      ⟨some 22, .some 20 true, true, 3, .load 3 (.tmp 21)⟩,
      ⟨some 23, .some 20 true, true, 0, .fieldAddr 23 (.tmp 1) 0⟩,
      ⟨some 24, .some 20 true, true, 3, .load 3 (.tmp 23)⟩,
      ⟨some 25, .some 20 true, true, 3, .binOp .add 3 (.tmp 24) (.const (.int .i64 2)) 3⟩,
      ⟨some 26, .some 20 true, true, 4, .call { callee := .value (.func 57), args := #[.tmp 22, .tmp 25, .const (.int .i64 48)], argTypes := #[3, 3, 3] }⟩,
      ⟨some 27, .none, true, 4, .pick (.tmp 20) (.tmp 26) (.const (.bool false))⟩,
      ⟨some 2, .none, true, 4, .assign (.tmp 27)⟩])
  .ret)))
theorem t_geo_Good : FnT Try.prog f_geo_Good rc_geo_Good [.tmp 2] 1 := ⟨⟨[], Try.f18, _, Try.func18, rfl, by kernel_rfl, by kernel_rfl, by kernel_rfl, rfl, by decide⟩, by kernel_rfl⟩
/-- reeve/geo.Root -/
abbrev f_geo_Root : FuncId := 19
def rc_geo_Root : RCode :=
  (.seq
    (.region [⟨some 2, .none, true, 0, .box 23 (.tmp 0)⟩,
      ⟨some 4, .none, true, 3, .assign (.const (.int .i64 0))⟩])
  (.keep [1, 2]
  (.seq
    (.seq
      (.region [⟨some 5, .none, true, 23, .load 23 (.tmp 2)⟩,
        ⟨some 6, .none, true, 4, .call { callee := .value (.func 18), args := #[.tmp 5], argTypes := #[23] }⟩,
        ⟨some 7, .none, true, 4, .unOp .not 4 (.tmp 6)⟩,
        ⟨some 8, .none, true, 4, .move (.tmp 7)⟩,
        ⟨some 9, .some 8 false, true, 3, .move (.tmp 1)⟩,
        ⟨some 10, .some 8 false, true, 0, .fieldAddr 23 (.tmp 2) 0⟩,
        ⟨some 11, .some 8 false, true, 3, .load 3 (.tmp 10)⟩,
        ⟨some 12, .some 8 false, true, 3, .binOp .sub 3 (.tmp 11) (.const (.int .i64 1)) 3⟩,
        ⟨some 13, .some 8 false, true, 4, .call { callee := .value (.func 57), args := #[.tmp 9, .const (.int .i64 0), .tmp 12], argTypes := #[3, 3, 3] }⟩,
        ⟨some 14, .some 8 false, true, 4, .unOp .not 4 (.tmp 13)⟩,
        ⟨some 15, .none, true, 4, .pick (.tmp 8) (.const (.bool true)) (.tmp 14)⟩])
    (.keep [1, 15]
    (.cond (.tmp 15)
      (.seq
        (.region [⟨some 4, .none, true, 3, .assign (.const (.int .i64 0))⟩])
      .ret)
      .skip)))
  (.seq
    (.region [⟨some 16, .none, true, 3, .move (.tmp 1)⟩,
      ⟨some 17, .none, true, 3, .binOp .mul 3 (.const (.int .i64 8)) (.tmp 16) 3⟩,
      ⟨some 4, .none, true, 3, .assign (.tmp 17)⟩])
  .ret))))
theorem t_geo_Root : FnT Try.prog f_geo_Root rc_geo_Root [.tmp 4] 2 := ⟨⟨[], Try.f19, _, Try.func19, rfl, by kernel_rfl, by kernel_rfl, by kernel_rfl, rfl, by decide⟩, by kernel_rfl⟩
/-- reeve/state.Owner -/
abbrev f_state_Owner : FuncId := 20
def rc_state_Owner : RCode :=
  (.seq
    (.region [⟨some 2, .none, true, 0, .box 27 (.tmp 0)⟩,
      ⟨some 4, .none, true, 3, .assign (.const (.int .i64 0))⟩])
  (.keep [1, 2]
  (.seq
    (.seq
      (.region [⟨some 5, .none, true, 27, .load 27 (.tmp 2)⟩,
        ⟨some 6, .none, true, 4, .call { callee := .value (.func 14), args := #[.tmp 5], argTypes := #[27] }⟩,
        ⟨some 7, .none, true, 4, .unOp .not 4 (.tmp 6)⟩,
        ⟨some 8, .none, true, 4, .move (.tmp 7)⟩,
        ⟨some 9, .some 8 false, true, 3, .move (.tmp 1)⟩,
        ⟨some 10, .some 8 false, true, 4, .binOp .lss 3 (.tmp 9) (.const (.int .i64 0)) 3⟩,
        ⟨some 11, .none, true, 4, .pick (.tmp 8) (.const (.bool true)) (.tmp 10)⟩,
        ⟨some 12, .none, true, 4, .move (.tmp 11)⟩,
        ⟨some 13, .some 12 false, true, 3, .move (.tmp 1)⟩,
        ⟨some 14, .some 12 false, true, 0, .fieldAddr 27 (.tmp 2) 1⟩,
        ⟨some 15, .some 12 false, true, 24, .load 24 (.tmp 14)⟩,
        ⟨some 16, .some 12 false, true, 3, .call { callee := .builtin .len, args := #[.tmp 15], argTypes := #[24] }⟩,
        ⟨some 17, .some 12 false, true, 4, .binOp .geq 3 (.tmp 13) (.tmp 16) 3⟩,
        ⟨some 18, .none, true, 4, .pick (.tmp 12) (.const (.bool true)) (.tmp 17)⟩])
    (.keep [1, 2, 18]
    (.cond (.tmp 18)
      (.seq
        (.region [⟨some 4, .none, true, 3, .assign (.const (.int .i64 (-1)))⟩])
      .ret)
      .skip)))
  (.seq
    (.region [⟨some 19, .none, true, 27, .load 27 (.tmp 2)⟩,
      ⟨some 20, .none, true, 3, .move (.tmp 1)⟩,
      ⟨some 21, .none, true, 3, .call { callee := .value (.func 58), args := #[.tmp 19, .tmp 20], argTypes := #[27, 3] }⟩,
      ⟨some 4, .none, true, 3, .assign (.tmp 21)⟩])
  .ret))))
theorem t_state_Owner : FnT Try.prog f_state_Owner rc_state_Owner [.tmp 4] 2 := ⟨⟨[], Try.f20, _, Try.func20, rfl, by kernel_rfl, by kernel_rfl, by kernel_rfl, rfl, by decide⟩, by kernel_rfl⟩
/-- reeve/reevelaw13.awake -/
abbrev f_reevelaw13_awake : FuncId := 27
def rc_reevelaw13_awake : RCode :=
  (.seq
    (.region [⟨some 0, .none, true, 4, .assign (.const (.bool false))⟩])
  (.keep []
  (.seq
    (.region [⟨some 7, .none, true, 27, .call { callee := .value (.func 66), args := #[], argTypes := #[] }⟩,
      ⟨some 8, .none, true, 35, .buildSlice 35 1 #[(0, .const (.int .i64 1))]⟩,
      ⟨some 9, .none, true, 60, .call { callee := .value (.func 48), args := #[.tmp 8], argTypes := #[35] }⟩,
      ⟨some 10, .none, true, 61, .call { callee := .value (.func 28), args := #[.tmp 7, .const (.int .i64 1), .tmp 9], argTypes := #[27, 3, 60] }⟩,
      ⟨some 6, .none, true, 61, .move (.tmp 10)⟩,
      ⟨some 11, .none, true, 3, .extract (.tmp 6) 0⟩,
      ⟨some 12, .none, true, 37, .extract (.tmp 6) 1⟩,
      ⟨some 1, .none, true, 3, .assign (.tmp 11)⟩,
      ⟨some 2, .none, true, 37, .assign (.tmp 12)⟩])
  (.keep [1, 2]
  (.seq
    (.region [⟨some 14, .none, true, 27, .call { callee := .value (.func 66), args := #[], argTypes := #[] }⟩,
      ⟨some 15, .none, true, 35, .buildSlice 35 1 #[(0, .const (.int .i64 0))]⟩,
      ⟨some 16, .none, true, 60, .call { callee := .value (.func 48), args := #[.tmp 15], argTypes := #[35] }⟩,
      ⟨some 17, .none, true, 63, .call { callee := .value (.func 29), args := #[.tmp 14, .const (.int .i64 0), .tmp 16], argTypes := #[27, 3, 60] }⟩,
      ⟨some 13, .none, true, 63, .move (.tmp 17)⟩,
      ⟨some 18, .none, true, 3, .extract (.tmp 13) 0⟩,
      ⟨some 19, .none, true, 32, .extract (.tmp 13) 1⟩,
      ⟨some 20, .none, true, 37, .extract (.tmp 13) 2⟩,
      ⟨some 4, .none, true, 0, .alloc 32⟩,
      ⟨some 3, .none, true, 3, .assign (.tmp 18)⟩,
      ⟨none, .none, true, 0, .store 32 (.tmp 4) (.tmp 19)⟩,
      ⟨some 5, .none, true, 37, .assign (.tmp 20)⟩])
  (.keep [1, 2, 3, 4, 5]
  (.seq
    (.region [⟨some 21, .none, true, 37, .move (.tmp 2)⟩,
      ⟨some 22, .none, true, 4, .binOp .eql 37 (.tmp 21) (.const (.int .i64 0)) 37⟩,
      ⟨some 23, .none, true, 4, .move (.tmp 22)⟩,
      ⟨some 24, .some 23 true, true, 3, .move (.tmp 1)⟩,
      ⟨some 25, .some 23 true, true, 4, .binOp .eql 3 (.tmp 24) (.const (.int .i64 9)) 3⟩,
      ⟨some 26, .none, true, 4, .pick (.tmp 23) (.tmp 25) (.const (.bool false))⟩,
      ⟨some 27, .none, true, 4, .move (.tmp 26)⟩,
      ⟨some 28, .some 27 true, true, 37, .move (.tmp 5)⟩,
      ⟨some 29, .some 27 true, true, 4, .binOp .eql 37 (.tmp 28) (.const (.int .i64 0)) 37⟩,
      ⟨some 30, .none, true, 4, .pick (.tmp 27) (.tmp 29) (.const (.bool false))⟩,
      ⟨some 31, .none, true, 4, .move (.tmp 30)⟩,
      ⟨some 32, .some 31 true, true, 3, .move (.tmp 3)⟩,
      ⟨some 33, .some 31 true, true, 4, .binOp .eql 3 (.tmp 32) (.const (.int .i64 0)) 3⟩,
      ⟨some 34, .none, true, 4, .pick (.tmp 31) (.tmp 33) (.const (.bool false))⟩,
      ⟨some 35, .none, true, 4, .move (.tmp 34)⟩,
      ⟨some 36, .some 35 true, true, 0, .fieldAddr 32 (.tmp 4) 0⟩,
      ⟨some 37, .some 35 true, true, 3, .load 3 (.tmp 36)⟩,
      ⟨some 38, .some 35 true, true, 4, .binOp .eql 3 (.tmp 37) (.const (.int .i64 1)) 3⟩,
      ⟨some 39, .none, true, 4, .pick (.tmp 35) (.tmp 38) (.const (.bool false))⟩,
      ⟨some 40, .none, true, 4, .move (.tmp 39)⟩,
      ⟨some 41, .some 40 true, true, 27, .call { callee := .value (.func 66), args := #[], argTypes := #[] }⟩,
      ⟨some 42, .some 40 true, true, 24, .field 27 (.tmp 41) 1⟩,
      ⟨some 43, .some 40 true, true, 3, .call { callee := .builtin .len, args := #[.tmp 42], argTypes := #[24] }⟩,
      ⟨some 44, .some 40 true, true, 4, .binOp .eql 3 (.tmp 43) (.const (.int .i64 32)) 3⟩,
      ⟨some 45, .none, true, 4, .pick (.tmp 40) (.tmp 44) (.const (.bool false))⟩,
      ⟨some 0, .none, true, 4, .assign (.tmp 45)⟩])
  .ret)))))))
theorem t_reevelaw13_awake : FnT Try.prog f_reevelaw13_awake rc_reevelaw13_awake [.tmp 0] 0 := ⟨⟨[], Try.f27, _, Try.func27, rfl, by kernel_rfl, by kernel_rfl, by kernel_rfl, rfl, by decide⟩, by kernel_rfl⟩
/-- reeve/find.Slot -/
abbrev f_find_Slot : FuncId := 28
def rc_find_Slotl0 : RCode :=
  (.seq
    (.region [⟨some 40, .none, true, 0, .binOp .lss 3 (.tmp 39) (.tmp 38) 3⟩])
  (.keep [3, 8, 9, 10, 37, 38, 39, 40]
  (.seq
    (.cond (.tmp 40)
      .skip
      (.exit 0))
  (.keep [3, 8, 9, 10, 37, 38, 39]
  (.seq
    (.block 1
      (.seq
        (.region [⟨some 41, .none, true, 3, .move (.tmp 39)⟩,
          ⟨some 42, .none, true, 0, .indexAddr 35 (.tmp 37) (.tmp 39)⟩,
          ⟨some 43, .none, true, 3, .load 3 (.tmp 42)⟩,
          ⟨some 11, .none, true, 3, .assign (.tmp 41)⟩,
          ⟨some 12, .none, true, 3, .assign (.tmp 43)⟩])
      (.keep [3, 8, 9, 10, 11, 12, 37, 38, 39]
      (.seq
        (.seq
          (.region [⟨some 44, .none, true, 3, .move (.tmp 11)⟩,
            ⟨some 45, .none, true, 4, .binOp .gtr 3 (.tmp 44) (.const (.int .i64 0)) 3⟩])
        (.keep [3, 8, 9, 10, 12, 37, 38, 39, 45]
        (.cond (.tmp 45)
          (.region [⟨some 47, .none, true, 27, .load 27 (.tmp 3)⟩,
            ⟨some 48, .none, true, 3, .move (.tmp 10)⟩,
            ⟨some 49, .none, true, 94, .call { callee := .value (.func 68), args := #[.tmp 47, .tmp 48], argTypes := #[27, 3] }⟩,
            ⟨some 46, .none, true, 94, .move (.tmp 49)⟩,
            ⟨some 50, .none, true, 71, .extract (.tmp 46) 0⟩,
            ⟨some 51, .none, true, 4, .extract (.tmp 46) 1⟩,
            ⟨none, .none, true, 0, .store 71 (.tmp 8) (.tmp 50)⟩,
            ⟨some 9, .none, true, 4, .assign (.tmp 51)⟩])
          .skip)))
      (.seq
        (.seq
          (.region [⟨some 52, .none, true, 4, .move (.tmp 9)⟩,
            ⟨some 53, .none, true, 4, .unOp .not 4 (.tmp 52)⟩,
            ⟨some 54, .none, true, 4, .move (.tmp 53)⟩,
            ⟨some 55, .some 54 false, true, 71, .load 71 (.tmp 8)⟩,
            ⟨some 56, .some 54 false, true, 3, .move (.tmp 12)⟩,
            ⟨some 57, .some 54 false, true, 3, .call { callee := .value (.func 69), args := #[.tmp 55, .tmp 56], argTypes := #[71, 3] }⟩,
            ⟨some 58, .some 54 false, true, 4, .binOp .lss 3 (.tmp 57) (.const (.int .i64 0)) 3⟩,
            ⟨some 59, .none, true, 4, .pick (.tmp 54) (.const (.bool true)) (.tmp 58)⟩])
        (.keep [3, 8, 9, 12, 37, 38, 39, 59]
        (.cond (.tmp 59)
          (.seq
            (.region [⟨some 6, .none, true, 3, .assign (.const (.int .i64 0))⟩,
              ⟨some 7, .none, true, 37, .assign (.const (.int .i64 3))⟩])
          .ret)
          .skip)))
      (.region [⟨some 60, .none, true, 71, .load 71 (.tmp 8)⟩,
        ⟨some 61, .none, true, 3, .move (.tmp 12)⟩,
        ⟨some 62, .none, true, 3, .call { callee := .value (.func 69), args := #[.tmp 60, .tmp 61], argTypes := #[71, 3] }⟩,
        ⟨some 10, .none, true, 3, .assign (.tmp 62)⟩]))))))
  (.keep [3, 8, 9, 10, 37, 38, 39]
  (.region [⟨some 63, .none, true, 3, .binOp .add 3 (.tmp 39) (.const (.int .i64 1)) 3⟩,
    ⟨some 39, .none, true, 3, .move (.tmp 63)⟩])))))))
def rc_find_Slot : RCode :=
  (.seq
    (.region [⟨some 3, .none, true, 0, .box 27 (.tmp 0)⟩,
      ⟨some 5, .none, true, 0, .box 60 (.tmp 2)⟩,
      ⟨some 6, .none, true, 3, .assign (.const (.int .i64 0))⟩,
      ⟨some 7, .none, true, 37, .assign (.const (.int .i64 0))⟩])
  (.keep [1, 3, 5]
  (.seq
    (.seq
      (.region [⟨some 13, .none, true, 27, .load 27 (.tmp 3)⟩,
        ⟨some 14, .none, true, 4, .call { callee := .value (.func 14), args := #[.tmp 13], argTypes := #[27] }⟩,
        ⟨some 15, .none, true, 4, .unOp .not 4 (.tmp 14)⟩,
        ⟨some 16, .none, true, 4, .move (.tmp 15)⟩,
        ⟨some 17, .some 16 false, true, 3, .move (.tmp 1)⟩,
        ⟨some 18, .some 16 false, true, 0, .fieldAddr 27 (.tmp 3) 0⟩,
        ⟨some 19, .some 16 false, true, 0, .fieldAddr 23 (.tmp 18) 0⟩,
        ⟨some 20, .some 16 false, true, 3, .load 3 (.tmp 19)⟩,
        ⟨some 21, .some 16 false, true, 3, .binOp .sub 3 (.tmp 20) (.const (.int .i64 1)) 3⟩,
        ⟨some 22, .some 16 false, true, 4, .call { callee := .value (.func 67), args := #[.tmp 17, .const (.int .i64 0), .tmp 21], argTypes := #[3, 3, 3] }⟩,
        ⟨some 23, .some 16 false, true, 4, .unOp .not 4 (.tmp 22)⟩,
        ⟨some 24, .none, true, 4, .pick (.tmp 16) (.const (.bool true)) (.tmp 23)⟩,
        ⟨some 25, .none, true, 4, .move (.tmp 24)⟩,
        ⟨some 26, .some 25 false, true, 60, .load 60 (.tmp 5)⟩,
        ⟨some 27, .some 25 false, true, 4, .call { callee := .value (.func 45), args := #[.tmp 26], argTypes := #[60] }⟩,
        ⟨some 28, .some 25 false, true, 4, .unOp .not 4 (.tmp 27)⟩,
        ⟨some 29, .none, true, 4, .pick (.tmp 25) (.const (.bool true)) (.tmp 28)⟩])
    (.keep [1, 3, 5, 29]
    (.cond (.tmp 29)
      (.seq
        (.region [⟨some 6, .none, true, 3, .assign (.const (.int .i64 0))⟩,
          ⟨some 7, .none, true, 37, .assign (.const (.int .i64 1))⟩])
      .ret)
      .skip)))
  (.seq
    (.region [⟨some 30, .none, true, 0, .fieldAddr 27 (.tmp 3) 2⟩,
      ⟨some 31, .none, true, 25, .load 25 (.tmp 30)⟩,
      ⟨some 32, .none, true, 3, .move (.tmp 1)⟩,
      ⟨some 33, .none, true, 3, .binOp .add 3 (.const (.int .i64 2)) (.tmp 32) 3⟩,
      ⟨some 34, .none, true, 0, .indexAddr 25 (.tmp 31) (.tmp 33)⟩,
      ⟨some 35, .none, true, 71, .load 71 (.tmp 34)⟩,
      ⟨some 8, .none, true, 0, .alloc 71⟩,
      ⟨none, .none, true, 0, .store 71 (.tmp 8) (.tmp 35)⟩,
      ⟨some 9, .none, true, 4, .assign (.const (.bool true))⟩])
  (.keep [3, 5, 8, 9]
  (.seq
    (.region [⟨some 10, .none, true, 3, .assign (.const (.int .i64 0))⟩])
  (.keep [3, 5, 8, 9, 10]
  (.seq
    (.seq
      (.region [⟨some 36, .none, true, 0, .fieldAddr 60 (.tmp 5) 0⟩,
        ⟨some 37, .none, true, 35, .load 35 (.tmp 36)⟩,
        ⟨some 38, .none, true, 3, .call { callee := .builtin .len, args := #[.tmp 37], argTypes := #[35] }⟩,
        ⟨some 39, .none, true, 3, .move (.const (.int .i64 0))⟩])
    (.keep [3, 8, 9, 10, 37, 38, 39]
    (.block 0
      (.loop [3, 8, 9, 10, 37, 38, 39] rc_find_Slotl0))))
  (.seq
    (.region [⟨some 64, .none, true, 3, .move (.tmp 10)⟩,
      ⟨some 6, .none, true, 3, .assign (.tmp 64)⟩,
      ⟨some 7, .none, true, 37, .assign (.const (.int .i64 0))⟩])
  .ret)))))))))
theorem t_find_Slot : FnT Try.prog f_find_Slot rc_find_Slot [.tmp 6, .tmp 7] 3 := ⟨⟨[], Try.f28, _, Try.func28, rfl, by kernel_rfl, by kernel_rfl, by kernel_rfl, rfl, by decide⟩, by kernel_rfl⟩
/-- reeve/find.Cap -/
abbrev f_find_Cap : FuncId := 29
def rc_find_Cap : RCode :=
  (.seq
    (.region [⟨some 3, .none, true, 0, .box 27 (.tmp 0)⟩,
      ⟨some 5, .none, true, 0, .box 60 (.tmp 2)⟩,
      ⟨some 6, .none, true, 3, .assign (.const (.int .i64 0))⟩,
      ⟨some 7, .none, true, 0, .alloc 32⟩,
      ⟨some 8, .none, true, 37, .assign (.const (.int .i64 0))⟩])
  (.keep [1, 3, 5, 7]
  (.seq
    (.region [⟨some 12, .none, true, 27, .load 27 (.tmp 3)⟩,
      ⟨some 13, .none, true, 3, .move (.tmp 1)⟩,
      ⟨some 14, .none, true, 60, .load 60 (.tmp 5)⟩,
      ⟨some 15, .none, true, 61, .call { callee := .value (.func 28), args := #[.tmp 12, .tmp 13, .tmp 14], argTypes := #[27, 3, 60] }⟩,
      ⟨some 11, .none, true, 61, .move (.tmp 15)⟩,
      ⟨some 16, .none, true, 3, .extract (.tmp 11) 0⟩,
      ⟨some 17, .none, true, 37, .extract (.tmp 11) 1⟩,
      ⟨some 9, .none, true, 3, .assign (.tmp 16)⟩,
      ⟨some 10, .none, true, 37, .assign (.tmp 17)⟩])
  (.keep [3, 7, 9, 10]
  (.seq
    (.block 0
      (.seq
        (.region [⟨some 19, .none, true, 37, .move (.tmp 10)⟩,
          ⟨some 20, .none, true, 4, .binOp .neq 37 (.tmp 19) (.const (.int .i64 0)) 37⟩,
          ⟨some 18, .none, true, 4, .assign (.tmp 20)⟩])
      (.keep [3, 7, 9, 10, 18]
      (.cond (.tmp 18)
        (.seq
          (.region [⟨some 21, .none, true, 32, .build 32 #[]⟩,
            ⟨some 22, .none, true, 37, .move (.tmp 10)⟩,
            ⟨some 6, .none, true, 3, .assign (.const (.int .i64 0))⟩,
            ⟨none, .none, true, 0, .store 32 (.tmp 7) (.tmp 21)⟩,
            ⟨some 8, .none, true, 37, .assign (.tmp 22)⟩])
        .ret)
        (.seq
          (.region [⟨some 24, .none, true, 0, .fieldAddr 27 (.tmp 3) 1⟩,
            ⟨some 25, .none, true, 24, .load 24 (.tmp 24)⟩,
            ⟨some 26, .none, true, 3, .move (.tmp 9)⟩,
            ⟨some 27, .none, true, 0, .indexAddr 24 (.tmp 25) (.tmp 26)⟩,
            ⟨some 28, .none, true, 0, .fieldAddr 34 (.tmp 27) 0⟩,
            ⟨some 29, .none, true, 32, .load 32 (.tmp 28)⟩,
            ⟨some 30, .none, true, 4, .call { callee := .value (.func 15), args := #[.tmp 29], argTypes := #[32] }⟩,
            ⟨some 23, .none, true, 4, .assign (.tmp 30)⟩])
        (.keep [3, 7, 9, 23]
        (.cond (.tmp 23)
          (.seq
            (.region [⟨some 31, .none, true, 32, .build 32 #[]⟩,
              ⟨some 6, .none, true, 3, .assign (.const (.int .i64 0))⟩,
              ⟨none, .none, true, 0, .store 32 (.tmp 7) (.tmp 31)⟩,
              ⟨some 8, .none, true, 37, .assign (.const (.int .i64 4))⟩])
          .ret)
          .skip)))))))
  (.keep [3, 7, 9]
  (.seq
    (.region [⟨some 32, .none, false, 3, .move (.tmp 9)⟩,
      ⟨some 33, .none, true, 0, .fieldAddr 27 (.tmp 3) 1⟩,
      ⟨some 34, .none, true, 24, .load 24 (.tmp 33)⟩,
      ⟨some 35, .none, false, 3, .move (.tmp 9)⟩,
      ⟨some 36, .none, true, 0, .indexAddr 24 (.tmp 34) (.tmp 35)⟩,
      ⟨some 37, .none, true, 0, .fieldAddr 34 (.tmp 36) 0⟩,
      ⟨some 38, .none, true, 32, .load 32 (.tmp 37)⟩,
      ⟨some 6, .none, false, 3, .assign (.tmp 32)⟩,
      ⟨none, .none, true, 0, .store 32 (.tmp 7) (.tmp 38)⟩,
      ⟨some 8, .none, true, 37, .assign (.const (.int .i64 0))⟩])
  .ret)))))))
theorem t_find_Cap : FnT Try.prog f_find_Cap rc_find_Cap [.tmp 6, .cell 7 32, .tmp 8] 3 := ⟨⟨[], Try.f29, _, Try.func29, rfl, by kernel_rfl, by kernel_rfl, by kernel_rfl, rfl, by decide⟩, by kernel_rfl⟩
/-- reeve/geo.Plain -/
abbrev f_geo_Plain : FuncId := 31
def rc_geo_Plain : RCode :=
  (.seq
    (.region [⟨some 0, .none, true, 0, .alloc 23⟩])
  (.keep [0]
  (.seq
    (.region [⟨some 1, .none, true, 23, .build 23 #[(0, .const (.int .i64 2)), (1, .const (.int .i64 32)), (2, .const (.int .i64 16))]⟩,
      ⟨none, .none, true, 0, .store 23 (.tmp 0) (.tmp 1)⟩])
  .ret)))
theorem t_geo_Plain : FnT Try.prog f_geo_Plain rc_geo_Plain [.cell 0 23] 0 := ⟨⟨[], Try.f31, _, Try.func31, rfl, by kernel_rfl, by kernel_rfl, by kernel_rfl, rfl, by decide⟩, by kernel_rfl⟩
/-- reeve/state.Forest -/
abbrev f_state_Forest : FuncId := 32
def rc_state_Forestl0 : RCode :=
  (.seq
    (.region [⟨some 10, .none, true, 0, .binOp .lss 3 (.tmp 9) (.tmp 8) 3⟩])
  (.keep [2, 3, 7, 8, 9, 10]
  (.seq
    (.cond (.tmp 10)
      .skip
      (.exit 0))
  (.keep [2, 3, 7, 8, 9]
  (.seq
    (.block 1
      (.seq
        (.region [⟨some 11, .none, true, 0, .indexAddr 24 (.tmp 7) (.tmp 9)⟩,
          ⟨some 12, .none, true, 34, .load 34 (.tmp 11)⟩,
          ⟨some 5, .none, true, 0, .alloc 34⟩,
          ⟨none, .none, true, 0, .store 34 (.tmp 5) (.tmp 12)⟩])
      (.keep [2, 3, 5, 7, 8, 9]
      (.seq
        (.seq
          (.region [⟨some 13, .none, true, 0, .fieldAddr 34 (.tmp 5) 0⟩,
            ⟨some 14, .none, true, 32, .load 32 (.tmp 13)⟩,
            ⟨some 15, .none, true, 4, .call { callee := .value (.func 15), args := #[.tmp 14], argTypes := #[32] }⟩])
        (.keep [2, 3, 5, 7, 8, 9, 15]
        (.cond (.tmp 15)
          (.region [⟨some 16, .none, true, 0, .fieldAddr 34 (.tmp 5) 1⟩,
            ⟨none, .none, true, 0, .store 3 (.tmp 16) (.const (.int .i64 (-2)))⟩])
          .skip)))
      (.region [⟨some 17, .none, true, 0, .fieldAddr 73 (.tmp 3) 0⟩,
        ⟨some 18, .none, true, 35, .load 35 (.tmp 17)⟩,
        ⟨some 19, .none, true, 0, .fieldAddr 34 (.tmp 5) 1⟩,
        ⟨some 20, .none, true, 3, .load 3 (.tmp 19)⟩,
        ⟨some 21, .none, true, 35, .buildSlice 35 1 #[(0, .tmp 20)]⟩,
        ⟨some 22, .none, true, 35, .call { callee := .builtin .append, args := #[.tmp 18, .tmp 21], argTypes := #[35, 35] }⟩,
        ⟨some 23, .none, true, 0, .fieldAddr 73 (.tmp 3) 0⟩,
        ⟨none, .none, true, 0, .store 35 (.tmp 23) (.tmp 22)⟩])))))
  (.keep [2, 3, 7, 8, 9]
  (.region [⟨some 24, .none, true, 3, .binOp .add 3 (.tmp 9) (.const (.int .i64 1)) 3⟩,
    ⟨some 9, .none, true, 3, .move (.tmp 24)⟩])))))))
def rc_state_Forest : RCode :=
  (.seq
    (.region [⟨some 1, .none, true, 0, .box 27 (.tmp 0)⟩,
      ⟨some 2, .none, true, 0, .alloc 73⟩])
  (.keep [1, 2]
  (.seq
    (.region [⟨some 3, .none, true, 0, .alloc 73⟩])
  (.keep [1, 2, 3]
  (.seq
    (.seq
      (.region [⟨some 6, .none, true, 0, .fieldAddr 27 (.tmp 1) 1⟩,
        ⟨some 7, .none, true, 24, .load 24 (.tmp 6)⟩,
        ⟨some 8, .none, true, 3, .call { callee := .builtin .len, args := #[.tmp 7], argTypes := #[24] }⟩,
        ⟨some 9, .none, true, 3, .move (.const (.int .i64 0))⟩])
    (.keep [2, 3, 7, 8, 9]
    (.block 0
      (.loop [2, 3, 7, 8, 9] rc_state_Forestl0))))
  (.seq
    (.region [⟨some 25, .none, true, 73, .load 73 (.tmp 3)⟩,
      ⟨none, .none, true, 0, .store 73 (.tmp 2) (.tmp 25)⟩])
  .ret))))))
theorem t_state_Forest : FnT Try.prog f_state_Forest rc_state_Forest [.cell 2 73] 1 := ⟨⟨[], Try.f32, _, Try.func32, rfl, by kernel_rfl, by kernel_rfl, by kernel_rfl, rfl, by decide⟩, by kernel_rfl⟩
/-- reeve/forest.Good -/
abbrev f_forest_Good : FuncId := 34
def rc_forest_Goodl0 : RCode :=
  (.seq
    (.region [⟨some 16, .none, true, 0, .binOp .lss 3 (.tmp 15) (.tmp 14) 3⟩])
  (.keep [1, 13, 14, 15, 16]
  (.seq
    (.cond (.tmp 16)
      .skip
      (.exit 0))
  (.keep [1, 13, 14, 15]
  (.seq
    (.block 1
      (.seq
        (.region [⟨some 17, .none, true, 0, .indexAddr 35 (.tmp 13) (.tmp 15)⟩,
          ⟨some 18, .none, true, 3, .load 3 (.tmp 17)⟩,
          ⟨some 4, .none, true, 3, .assign (.tmp 18)⟩])
      (.keep [1, 4, 13, 14, 15]
      (.seq
        (.region [⟨some 19, .none, true, 3, .move (.tmp 4)⟩,
          ⟨some 20, .none, true, 4, .binOp .neq 3 (.tmp 19) (.const (.int .i64 (-2))) 3⟩,
          ⟨some 21, .none, true, 4, .move (.tmp 20)⟩,
          ⟨some 22, .some 21 true, true, 3, .move (.tmp 4)⟩,
          ⟨some 23, .some 21 true, true, 4, .binOp .neq 3 (.tmp 22) (.const (.int .i64 (-1))) 3⟩,
          ⟨some 24, .none, true, 4, .pick (.tmp 21) (.tmp 23) (.const (.bool false))⟩,
          ⟨some 25, .none, true, 4, .move (.tmp 24)⟩,
          ⟨some 26, .some 25 true, true, 73, .load 73 (.tmp 1)⟩,
          ⟨some 27, .some 25 true, true, 3, .move (.tmp 4)⟩,
          ⟨some 28, .some 25 true, true, 4, .call { callee := .value (.func 70), args := #[.tmp 26, .tmp 27], argTypes := #[73, 3] }⟩,
          ⟨some 29, .some 25 true, true, 4, .unOp .not 4 (.tmp 28)⟩,
          ⟨some 30, .none, true, 4, .pick (.tmp 25) (.tmp 29) (.const (.bool false))⟩])
      (.keep [1, 13, 14, 15, 30]
      (.cond (.tmp 30)
        (.seq
          (.region [⟨some 2, .none, true, 4, .assign (.const (.bool false))⟩])
        .ret)
        .skip))))))
  (.keep [1, 13, 14, 15]
  (.region [⟨some 31, .none, true, 3, .binOp .add 3 (.tmp 15) (.const (.int .i64 1)) 3⟩,
    ⟨some 15, .none, true, 3, .move (.tmp 31)⟩])))))))
def rc_forest_Goodl1 : RCode :=
  (.seq
    (.seq
      (.region [⟨some 39, .none, true, 73, .load 73 (.tmp 1)⟩,
        ⟨some 40, .none, true, 3, .move (.tmp 7)⟩,
        ⟨some 41, .none, true, 4, .call { callee := .value (.func 70), args := #[.tmp 39, .tmp 40], argTypes := #[73, 3] }⟩])
    (.keep [1, 6, 7, 34, 35, 41]
    (.cond (.tmp 41)
      .skip
      (.exit 4))))
  (.seq
    (.block 5
      (.seq
        (.seq
          (.region [⟨some 47, .none, true, 3, .move (.tmp 6)⟩,
            ⟨some 48, .none, true, 0, .fieldAddr 73 (.tmp 1) 0⟩,
            ⟨some 49, .none, true, 35, .load 35 (.tmp 48)⟩,
            ⟨some 50, .none, true, 3, .call { callee := .builtin .len, args := #[.tmp 49], argTypes := #[35] }⟩,
            ⟨some 51, .none, true, 4, .binOp .gtr 3 (.tmp 47) (.tmp 50) 3⟩])
        (.keep [1, 6, 7, 34, 35, 51]
        (.cond (.tmp 51)
          (.seq
            (.region [⟨some 2, .none, true, 4, .assign (.const (.bool false))⟩])
          .ret)
          .skip)))
      (.region [⟨some 52, .none, true, 3, .move (.tmp 6)⟩,
        ⟨some 53, .none, true, 3, .binOp .add 3 (.tmp 52) (.const (.int .i64 1)) 3⟩,
        ⟨some 6, .none, true, 3, .assign (.tmp 53)⟩])))
  (.keep [1, 6, 7, 34, 35]
  (.region [⟨some 42, .none, true, 0, .fieldAddr 73 (.tmp 1) 0⟩,
    ⟨some 43, .none, true, 35, .load 35 (.tmp 42)⟩,
    ⟨some 44, .none, true, 3, .move (.tmp 7)⟩,
    ⟨some 45, .none, true, 0, .indexAddr 35 (.tmp 43) (.tmp 44)⟩,
    ⟨some 46, .none, true, 3, .load 3 (.tmp 45)⟩,
    ⟨some 7, .none, true, 3, .assign (.tmp 46)⟩]))))
def rc_forest_Goodl2 : RCode :=
  (.seq
    (.region [⟨some 36, .none, true, 0, .binOp .lss 3 (.tmp 35) (.tmp 34) 3⟩])
  (.keep [1, 34, 35, 36]
  (.seq
    (.cond (.tmp 36)
      .skip
      (.exit 2))
  (.keep [1, 34, 35]
  (.seq
    (.block 3
      (.seq
        (.region [⟨some 37, .none, true, 3, .move (.tmp 35)⟩,
          ⟨some 5, .none, true, 3, .assign (.tmp 37)⟩])
      (.keep [1, 5, 34, 35]
      (.seq
        (.region [⟨some 6, .none, true, 3, .assign (.const (.int .i64 0))⟩])
      (.keep [1, 5, 6, 34, 35]
      (.seq
        (.region [⟨some 38, .none, true, 3, .move (.tmp 5)⟩,
          ⟨some 7, .none, true, 3, .assign (.tmp 38)⟩])
      (.keep [1, 6, 7, 34, 35]
      (.block 4
        (.loop [1, 6, 7, 34, 35] rc_forest_Goodl1)))))))))
  (.keep [1, 34, 35]
  (.region [⟨some 54, .none, true, 3, .binOp .add 3 (.tmp 35) (.const (.int .i64 1)) 3⟩,
    ⟨some 35, .none, true, 3, .move (.tmp 54)⟩])))))))
def rc_forest_Good : RCode :=
  (.seq
    (.region [⟨some 1, .none, true, 0, .box 73 (.tmp 0)⟩,
      ⟨some 2, .none, true, 4, .assign (.const (.bool false))⟩])
  (.keep [1]
  (.seq
    (.seq
      (.region [⟨some 8, .none, true, 0, .fieldAddr 73 (.tmp 1) 0⟩,
        ⟨some 9, .none, true, 35, .load 35 (.tmp 8)⟩,
        ⟨some 10, .none, true, 3, .call { callee := .builtin .len, args := #[.tmp 9], argTypes := #[35] }⟩,
        ⟨some 11, .none, true, 4, .binOp .gtr 3 (.tmp 10) (.const (.int .i64 96)) 3⟩])
    (.keep [1, 11]
    (.cond (.tmp 11)
      (.seq
        (.region [⟨some 2, .none, true, 4, .assign (.const (.bool false))⟩])
      .ret)
      .skip)))
  (.seq
    (.seq
      (.region [⟨some 12, .none, true, 0, .fieldAddr 73 (.tmp 1) 0⟩,
        ⟨some 13, .none, true, 35, .load 35 (.tmp 12)⟩,
        ⟨some 14, .none, true, 3, .call { callee := .builtin .len, args := #[.tmp 13], argTypes := #[35] }⟩,
        ⟨some 15, .none, true, 3, .move (.const (.int .i64 0))⟩])
    (.keep [1, 13, 14, 15]
    (.block 0
      (.loop [1, 13, 14, 15] rc_forest_Goodl0))))
  (.seq
    (.seq
      (.region [⟨some 32, .none, true, 0, .fieldAddr 73 (.tmp 1) 0⟩,
        ⟨some 33, .none, true, 35, .load 35 (.tmp 32)⟩,
        ⟨some 34, .none, true, 3, .call { callee := .builtin .len, args := #[.tmp 33], argTypes := #[35] }⟩,
        ⟨some 35, .none, true, 3, .move (.const (.int .i64 0))⟩])
    (.keep [1, 34, 35]
    (.block 2
      (.loop [1, 34, 35] rc_forest_Goodl2))))
  (.seq
    (.region [⟨some 2, .none, true, 4, .assign (.const (.bool true))⟩])
  .ret))))))
theorem t_forest_Good : FnT Try.prog f_forest_Good rc_forest_Good [.tmp 2] 1 := ⟨⟨[], Try.f34, _, Try.func34, rfl, by kernel_rfl, by kernel_rfl, by kernel_rfl, rfl, by decide⟩, by kernel_rfl⟩
/-- reeve/find.Ways -/
abbrev f_find_Ways : FuncId := 44
def rc_find_Ways : RCode :=
  (.seq
    (.region [⟨some 3, .none, true, 0, .box 27 (.tmp 0)⟩,
      ⟨some 5, .none, true, 0, .box 3 (.tmp 2)⟩,
      ⟨some 6, .none, true, 88, .assign (.const (.slice none 0 0))⟩])
  (.keep [1, 3, 5]
  (.seq
    (.region [⟨some 7, .none, true, 0, .alloc 88⟩])
  (.keep [1, 3, 5, 7]
  (.seq
    (.seq
      (.region [⟨some 8, .none, true, 27, .load 27 (.tmp 3)⟩,
        ⟨some 9, .none, true, 4, .call { callee := .value (.func 14), args := #[.tmp 8], argTypes := #[27] }⟩,
        ⟨some 10, .none, true, 4, .unOp .not 4 (.tmp 9)⟩,
        ⟨some 11, .none, true, 4, .move (.tmp 10)⟩,
        ⟨some 12, .some 11 false, true, 3, .move (.tmp 1)⟩,
        ⟨some 13, .some 11 false, true, 0, .fieldAddr 27 (.tmp 3) 0⟩,
        ⟨some 14, .some 11 false, true, 0, .fieldAddr 23 (.tmp 13) 0⟩,
        ⟨some 15, .some 11 false, true, 3, .load 3 (.tmp 14)⟩,
        ⟨some 16, .some 11 false, true, 3, .binOp .sub 3 (.tmp 15) (.const (.int .i64 1)) 3⟩,
        ⟨some 17, .some 11 false, true, 4, .call { callee := .value (.func 67), args := #[.tmp 12, .const (.int .i64 0), .tmp 16], argTypes := #[3, 3, 3] }⟩,
        ⟨some 18, .some 11 false, true, 4, .unOp .not 4 (.tmp 17)⟩,
        ⟨some 19, .none, true, 4, .pick (.tmp 11) (.const (.bool true)) (.tmp 18)⟩])
    (.keep [1, 3, 5, 7, 19]
    (.cond (.tmp 19)
      (.seq
        (.region [⟨some 6, .none, true, 88, .assign (.const (.slice none 0 0))⟩])
      .ret)
      .skip)))
  (.seq
    (.region [⟨some 20, .none, false, 27, .load 27 (.tmp 3)⟩,
      ⟨some 21, .none, false, 0, .fieldAddr 27 (.tmp 3) 2⟩,
      ⟨some 22, .none, false, 25, .load 25 (.tmp 21)⟩,
      ⟨some 23, .none, false, 3, .move (.tmp 1)⟩,
      ⟨some 24, .none, false, 3, .binOp .add 3 (.const (.int .i64 2)) (.tmp 23) 3⟩,
      ⟨some 25, .none, false, 0, .indexAddr 25 (.tmp 22) (.tmp 24)⟩,
      ⟨some 26, .none, false, 71, .load 71 (.tmp 25)⟩,
      ⟨some 27, .none, false, 120, .makeFunc (.func 86) #[] #[.tmp 5, .tmp 7]⟩,
      ⟨some 28, .none, true, 0, .call { callee := .value (.func 85), args := #[.tmp 20, .tmp 26, .const (.slice none 0 0), .tmp 27], argTypes := #[27, 71, 35, 120] }⟩])
  (.keep [7]
  (.seq
    (.region [⟨some 29, .none, true, 88, .load 88 (.tmp 7)⟩,
      ⟨some 6, .none, true, 88, .assign (.tmp 29)⟩])
  .ret))))))))
theorem t_find_Ways : FnT Try.prog f_find_Ways rc_find_Ways [.tmp 6] 3 := ⟨⟨[], Try.f44, _, Try.func44, rfl, by kernel_rfl, by kernel_rfl, by kernel_rfl, rfl, by decide⟩, by kernel_rfl⟩
/-- reeve/path.Good -/
abbrev f_path_Good : FuncId := 45
def rc_path_Good : RCode :=
  (.seq
    (.region [⟨some 1, .none, true, 0, .box 60 (.tmp 0)⟩,
      ⟨some 2, .none, true, 4, .assign (.const (.bool false))⟩])
  (.keep [1]
  (.seq
    (.region [⟨some 3, .none, true, 111, .assign (.func 87)⟩])
  (.keep [1, 3]
  (.seq
    (.region [⟨some 4, .none, true, 0, .fieldAddr 60 (.tmp 1) 0⟩,
      ⟨some 5, .none, true, 35, .load 35 (.tmp 4)⟩,
      ⟨some 6, .none, true, 3, .call { callee := .builtin .len, args := #[.tmp 5], argTypes := #[35] }⟩,
      ⟨some 7, .none, true, 4, .binOp .geq 3 (.tmp 6) (.const (.int .i64 1)) 3⟩,
      ⟨some 8, .none, true, 4, .move (.tmp 7)⟩,
      ⟨some 9, .some 8 true, true, 0, .fieldAddr 60 (.tmp 1) 0⟩,
      ⟨some 10, .some 8 true, true, 35, .load 35 (.tmp 9)⟩,
      ⟨some 11, .some 8 true, true, 3, .call { callee := .builtin .len, args := #[.tmp 10], argTypes := #[35] }⟩,
      ⟨some 12, .some 8 true, true, 4, .binOp .leq 3 (.tmp 11) (.const (.int .i64 3)) 3⟩,
      ⟨some 13, .none, true, 4, .pick (.tmp 8) (.tmp 12) (.const (.bool false))⟩,
      ⟨some 14, .none, true, 4, .move (.tmp 13)⟩,
      ⟨some 15, .some 14 true, true, 0, .fieldAddr 60 (.tmp 1) 0⟩,
      ⟨some 16, .some 14 true, true, 35, .load 35 (.tmp 15)⟩,
      ⟨some 17, .some 14 true, true, 111, .move (.tmp 3)⟩,
      ⟨some 18, .some 14 true, true, 4, .call { callee := .value (.func 88), args := #[.tmp 16, .tmp 17], argTypes := #[35, 111] }⟩,
      ⟨some 19, .some 14 true, true, 4, .unOp .not 4 (.tmp 18)⟩,
      ⟨some 20, .none, true, 4, .pick (.tmp 14) (.tmp 19) (.const (.bool false))⟩,
      ⟨some 2, .none, true, 4, .assign (.tmp 20)⟩])
  .ret)))))
theorem t_path_Good : FnT Try.prog f_path_Good rc_path_Good [.tmp 2] 1 := ⟨⟨[], Try.f45, _, Try.func45, rfl, by kernel_rfl, by kernel_rfl, by kernel_rfl, rfl, by decide⟩, by kernel_rfl⟩
/-- reeve/find.Reach -/
abbrev f_find_Reach : FuncId := 46
def rc_find_Reach : RCode :=
  (.seq
    (.region [⟨some 2, .none, true, 0, .box 27 (.tmp 0)⟩,
      ⟨some 4, .none, true, 35, .assign (.const (.slice none 0 0))⟩])
  (.keep [1, 2]
  (.seq
    (.region [⟨some 5, .none, true, 0, .alloc 35⟩])
  (.keep [1, 2, 5]
  (.seq
    (.seq
      (.region [⟨some 6, .none, true, 27, .load 27 (.tmp 2)⟩,
        ⟨some 7, .none, true, 4, .call { callee := .value (.func 14), args := #[.tmp 6], argTypes := #[27] }⟩,
        ⟨some 8, .none, true, 4, .unOp .not 4 (.tmp 7)⟩,
        ⟨some 9, .none, true, 4, .move (.tmp 8)⟩,
        ⟨some 10, .some 9 false, true, 3, .move (.tmp 1)⟩,
        ⟨some 11, .some 9 false, true, 0, .fieldAddr 27 (.tmp 2) 0⟩,
        ⟨some 12, .some 9 false, true, 0, .fieldAddr 23 (.tmp 11) 0⟩,
        ⟨some 13, .some 9 false, true, 3, .load 3 (.tmp 12)⟩,
        ⟨some 14, .some 9 false, true, 3, .binOp .sub 3 (.tmp 13) (.const (.int .i64 1)) 3⟩,
        ⟨some 15, .some 9 false, true, 4, .call { callee := .value (.func 67), args := #[.tmp 10, .const (.int .i64 0), .tmp 14], argTypes := #[3, 3, 3] }⟩,
        ⟨some 16, .some 9 false, true, 4, .unOp .not 4 (.tmp 15)⟩,
        ⟨some 17, .none, true, 4, .pick (.tmp 9) (.const (.bool true)) (.tmp 16)⟩])
    (.keep [1, 2, 5, 17]
    (.cond (.tmp 17)
      (.seq
        (.region [⟨some 4, .none, true, 35, .assign (.const (.slice none 0 0))⟩])
      .ret)
      .skip)))
  (.seq
    (.region [⟨some 18, .none, false, 27, .load 27 (.tmp 2)⟩,
      ⟨some 19, .none, false, 0, .fieldAddr 27 (.tmp 2) 2⟩,
      ⟨some 20, .none, false, 25, .load 25 (.tmp 19)⟩,
      ⟨some 21, .none, false, 3, .move (.tmp 1)⟩,
      ⟨some 22, .none, false, 3, .binOp .add 3 (.const (.int .i64 2)) (.tmp 21) 3⟩,
      ⟨some 23, .none, false, 0, .indexAddr 25 (.tmp 20) (.tmp 22)⟩,
      ⟨some 24, .none, false, 71, .load 71 (.tmp 23)⟩,
      ⟨some 25, .none, false, 120, .makeFunc (.func 89) #[] #[.tmp 5]⟩,
      ⟨some 26, .none, true, 0, .call { callee := .value (.func 85), args := #[.tmp 18, .tmp 24, .const (.slice none 0 0), .tmp 25], argTypes := #[27, 71, 35, 120] }⟩])
  (.keep [5]
  (.seq
    (.region [⟨some 27, .none, true, 35, .load 35 (.tmp 5)⟩,
      ⟨some 28, .none, true, 0, .call { callee := .value (.func 90), args := #[.tmp 27], argTypes := #[35] }⟩])
  (.keep [5]
  (.seq
    (.region [⟨some 29, .none, true, 35, .load 35 (.tmp 5)⟩,
      ⟨some 30, .none, true, 35, .call { callee := .value (.func 91), args := #[.tmp 29], argTypes := #[35] }⟩,
      ⟨some 4, .none, true, 35, .assign (.tmp 30)⟩])
  .ret))))))))))
theorem t_find_Reach : FnT Try.prog f_find_Reach rc_find_Reach [.tmp 4] 2 := ⟨⟨[], Try.f46, _, Try.func46, rfl, by kernel_rfl, by kernel_rfl, by kernel_rfl, rfl, by decide⟩, by kernel_rfl⟩
/-- reeve/reevelaw13.way -/
abbrev f_reevelaw13_way : FuncId := 48
def rc_reevelaw13_way : RCode :=
  (.seq
    (.region [⟨some 2, .none, true, 0, .alloc 60⟩])
  (.keep [0, 2]
  (.seq
    (.region [⟨some 3, .none, true, 35, .move (.tmp 0)⟩,
      ⟨some 4, .none, true, 60, .build 60 #[(0, .tmp 3)]⟩,
      ⟨none, .none, true, 0, .store 60 (.tmp 2) (.tmp 4)⟩])
  .ret)))
theorem t_reevelaw13_way : FnT Try.prog f_reevelaw13_way rc_reevelaw13_way [.cell 2 60] 1 := ⟨⟨[], Try.f48, _, Try.func48, rfl, by kernel_rfl, by kernel_rfl, by kernel_rfl, rfl, by decide⟩, by kernel_rfl⟩
/-- (reeve/state.State).caps -/
abbrev f_state_State_caps : FuncId := 50
def rc_state_State_capsl0 : RCode :=
  (.seq
    (.region [⟨some 10, .none, true, 0, .binOp .lss 3 (.tmp 9) (.tmp 8) 3⟩])
  (.keep [1, 7, 8, 9, 10]
  (.seq
    (.cond (.tmp 10)
      .skip
      (.exit 0))
  (.keep [1, 7, 8, 9]
  (.seq
    (.block 1
      (.seq
        (.region [⟨some 11, .none, true, 0, .indexAddr 24 (.tmp 7) (.tmp 9)⟩,
          ⟨some 12, .none, true, 34, .load 34 (.tmp 11)⟩,
          ⟨some 4, .none, true, 0, .alloc 34⟩,
          ⟨none, .none, true, 0, .store 34 (.tmp 4) (.tmp 12)⟩])
      (.keep [1, 4, 7, 8, 9]
      (.seq
        (.region [⟨some 13, .none, true, 0, .fieldAddr 34 (.tmp 4) 0⟩,
          ⟨some 14, .none, true, 32, .load 32 (.tmp 13)⟩,
          ⟨some 5, .none, true, 0, .alloc 32⟩,
          ⟨none, .none, true, 0, .store 32 (.tmp 5) (.tmp 14)⟩])
      (.keep [1, 4, 5, 7, 8, 9]
      (.block 2
        (.seq
          (.region [⟨some 16, .none, true, 32, .load 32 (.tmp 5)⟩,
            ⟨some 17, .none, true, 4, .call { callee := .value (.func 92), args := #[.tmp 16], argTypes := #[32] }⟩,
            ⟨some 18, .none, true, 4, .unOp .not 4 (.tmp 17)⟩,
            ⟨some 15, .none, true, 4, .assign (.tmp 18)⟩])
        (.keep [1, 4, 5, 7, 8, 9, 15]
        (.cond (.tmp 15)
          (.seq
            (.region [⟨some 2, .none, true, 4, .assign (.const (.bool false))⟩])
          .ret)
          (.seq
            (.seq
              (.region [⟨some 20, .none, true, 32, .load 32 (.tmp 5)⟩,
                ⟨some 21, .none, true, 4, .call { callee := .value (.func 15), args := #[.tmp 20], argTypes := #[32] }⟩,
                ⟨some 22, .none, true, 4, .move (.tmp 21)⟩,
                ⟨some 23, .some 22 true, true, 0, .fieldAddr 34 (.tmp 4) 1⟩,
                ⟨some 24, .some 22 true, true, 3, .load 3 (.tmp 23)⟩,
                ⟨some 25, .some 22 true, true, 4, .binOp .neq 3 (.tmp 24) (.const (.int .i64 (-1))) 3⟩,
                ⟨some 26, .none, true, 4, .pick (.tmp 22) (.tmp 25) (.const (.bool false))⟩,
                ⟨some 19, .none, true, 4, .assign (.tmp 26)⟩])
            (.keep [1, 4, 5, 7, 8, 9, 19]
            (.cond (.tmp 19)
              .skip
              (.region [⟨some 27, .none, true, 32, .load 32 (.tmp 5)⟩,
                ⟨some 28, .none, true, 4, .call { callee := .value (.func 15), args := #[.tmp 27], argTypes := #[32] }⟩,
                ⟨some 29, .none, true, 4, .unOp .not 4 (.tmp 28)⟩,
                ⟨some 30, .none, true, 4, .move (.tmp 29)⟩,
                ⟨some 31, .some 30 true, true, 0, .fieldAddr 34 (.tmp 4) 1⟩,
                ⟨some 32, .some 30 true, true, 3, .load 3 (.tmp 31)⟩,
                ⟨some 33, .some 30 true, true, 4, .binOp .lss 3 (.tmp 32) (.const (.int .i64 (-1))) 3⟩,
                ⟨some 34, .none, true, 4, .pick (.tmp 30) (.tmp 33) (.const (.bool false))⟩,
                ⟨some 19, .none, true, 4, .assign (.tmp 34)⟩]))))
          (.cond (.tmp 19)
            (.seq
              (.region [⟨some 2, .none, true, 4, .assign (.const (.bool false))⟩])
            .ret)
            (.seq
              (.region [⟨some 36, .none, true, 32, .load 32 (.tmp 5)⟩,
                ⟨some 37, .none, true, 4, .call { callee := .value (.func 15), args := #[.tmp 36], argTypes := #[32] }⟩,
                ⟨some 38, .none, true, 4, .unOp .not 4 (.tmp 37)⟩,
                ⟨some 39, .none, true, 4, .move (.tmp 38)⟩,
                ⟨some 40, .some 39 true, false, 27, .load 27 (.tmp 1)⟩,
                ⟨some 41, .some 39 true, false, 0, .fieldAddr 32 (.tmp 5) 1⟩,
                ⟨some 42, .some 39 true, false, 3, .load 3 (.tmp 41)⟩,
                ⟨some 43, .some 39 true, true, 4, .call { callee := .value (.func 93), args := #[.tmp 40, .tmp 42], argTypes := #[27, 3] }⟩,
                ⟨some 44, .some 39 true, true, 4, .unOp .not 4 (.tmp 43)⟩,
                ⟨some 45, .some 39 true, true, 4, .move (.tmp 44)⟩,
                ⟨some 46, .some 45 false, false, 0, .fieldAddr 27 (.tmp 1) 2⟩,
                ⟨some 47, .some 45 false, false, 25, .load 25 (.tmp 46)⟩,
                ⟨some 48, .some 45 false, false, 0, .fieldAddr 32 (.tmp 5) 1⟩,
                ⟨some 49, .some 45 false, false, 3, .load 3 (.tmp 48)⟩,
                ⟨some 50, .some 45 false, false, 0, .indexAddr 25 (.tmp 47) (.tmp 49)⟩,
                ⟨some 51, .some 45 false, false, 0, .fieldAddr 71 (.tmp 50) 0⟩,
                ⟨some 52, .some 45 false, false, 3, .load 3 (.tmp 51)⟩,
                ⟨some 53, .some 45 false, false, 0, .fieldAddr 32 (.tmp 5) 0⟩,
                ⟨some 54, .some 45 false, false, 3, .load 3 (.tmp 53)⟩,
                ⟨some 55, .some 45 false, true, 4, .binOp .neq 3 (.tmp 52) (.tmp 54) 3⟩,
                ⟨some 56, .some 39 true, true, 4, .pick (.tmp 45) (.const (.bool true)) (.tmp 55)⟩,
                ⟨some 57, .none, true, 4, .pick (.tmp 39) (.tmp 56) (.const (.bool false))⟩,
                ⟨some 35, .none, true, 4, .assign (.tmp 57)⟩])
            (.keep [1, 7, 8, 9, 35]
            (.cond (.tmp 35)
              (.seq
                (.region [⟨some 2, .none, true, 4, .assign (.const (.bool false))⟩])
              .ret)
              .skip))))))))))))))
  (.keep [1, 7, 8, 9]
  (.region [⟨some 58, .none, true, 3, .binOp .add 3 (.tmp 9) (.const (.int .i64 1)) 3⟩,
    ⟨some 9, .none, true, 3, .move (.tmp 58)⟩])))))))
def rc_state_State_caps : RCode :=
  (.seq
    (.region [⟨some 1, .none, true, 0, .box 27 (.tmp 0)⟩,
      ⟨some 2, .none, true, 4, .assign (.const (.bool false))⟩])
  (.keep [1]
  (.seq
    (.seq
      (.region [⟨some 6, .none, true, 0, .fieldAddr 27 (.tmp 1) 1⟩,
        ⟨some 7, .none, true, 24, .load 24 (.tmp 6)⟩,
        ⟨some 8, .none, true, 3, .call { callee := .builtin .len, args := #[.tmp 7], argTypes := #[24] }⟩,
        ⟨some 9, .none, true, 3, .move (.const (.int .i64 0))⟩])
    (.keep [1, 7, 8, 9]
    (.block 0
      (.loop [1, 7, 8, 9] rc_state_State_capsl0))))
  (.seq
    (.region [⟨some 2, .none, true, 4, .assign (.const (.bool true))⟩])
  .ret))))
theorem t_state_State_caps : FnT Try.prog f_state_State_caps rc_state_State_caps [.tmp 2] 1 := ⟨⟨[], Try.f50, _, Try.func50, rfl, by kernel_rfl, by kernel_rfl, by kernel_rfl, rfl, by decide⟩, by kernel_rfl⟩
/-- (reeve/state.State).things -/
abbrev f_state_State_things : FuncId := 51
def rc_state_State_thingsl0 : RCode :=
  (.seq
    (.region [⟨some 10, .none, true, 0, .binOp .lss 3 (.tmp 9) (.tmp 8) 3⟩])
  (.keep [1, 7, 8, 9, 10]
  (.seq
    (.cond (.tmp 10)
      .skip
      (.exit 0))
  (.keep [1, 7, 8, 9]
  (.seq
    (.block 1
      (.seq
        (.region [⟨some 11, .none, true, 3, .move (.tmp 9)⟩,
          ⟨some 12, .none, true, 0, .indexAddr 25 (.tmp 7) (.tmp 9)⟩,
          ⟨some 13, .none, true, 71, .load 71 (.tmp 12)⟩,
          ⟨some 4, .none, true, 0, .alloc 71⟩,
          ⟨some 3, .none, true, 3, .assign (.tmp 11)⟩,
          ⟨none, .none, true, 0, .store 71 (.tmp 4) (.tmp 13)⟩])
      (.keep [1, 3, 4, 7, 8, 9]
      (.seq
        (.seq
          (.region [⟨some 14, .none, true, 71, .load 71 (.tmp 4)⟩,
            ⟨some 15, .none, true, 4, .call { callee := .value (.func 94), args := #[.tmp 14], argTypes := #[71] }⟩,
            ⟨some 16, .none, true, 4, .unOp .not 4 (.tmp 15)⟩])
        (.keep [1, 3, 4, 7, 8, 9, 16]
        (.cond (.tmp 16)
          (.seq
            (.region [⟨some 2, .none, true, 4, .assign (.const (.bool false))⟩])
          .ret)
          .skip)))
      (.seq
        (.seq
          (.region [⟨some 17, .none, true, 0, .fieldAddr 71 (.tmp 4) 5⟩,
            ⟨some 18, .none, true, 3, .load 3 (.tmp 17)⟩,
            ⟨some 19, .none, true, 4, .binOp .gtr 3 (.tmp 18) (.const (.int .i64 0)) 3⟩,
            ⟨some 20, .none, true, 4, .move (.tmp 19)⟩,
            ⟨some 21, .some 20 true, true, 0, .fieldAddr 71 (.tmp 4) 5⟩,
            ⟨some 22, .some 20 true, true, 3, .load 3 (.tmp 21)⟩,
            ⟨some 23, .some 20 true, true, 0, .fieldAddr 27 (.tmp 1) 1⟩,
            ⟨some 24, .some 20 true, true, 24, .load 24 (.tmp 23)⟩,
            ⟨some 25, .some 20 true, true, 3, .call { callee := .builtin .len, args := #[.tmp 24], argTypes := #[24] }⟩,
            ⟨some 26, .some 20 true, true, 4, .binOp .gtr 3 (.tmp 22) (.tmp 25) 3⟩,
            ⟨some 27, .some 20 true, true, 4, .move (.tmp 26)⟩,
            ⟨some 28, .some 27 false, true, 0, .fieldAddr 27 (.tmp 1) 1⟩,
            ⟨some 29, .some 27 false, true, 24, .load 24 (.tmp 28)⟩,
            ⟨some 30, .some 27 false, true, 0, .fieldAddr 71 (.tmp 4) 5⟩,
            ⟨some 31, .some 27 false, true, 3, .load 3 (.tmp 30)⟩,
            ⟨some 32, .some 27 false, true, 3, .binOp .sub 3 (.tmp 31) (.const (.int .i64 1)) 3⟩,
            ⟨some 33, .some 27 false, true, 0, .indexAddr 24 (.tmp 29) (.tmp 32)⟩,
            ⟨some 34, .some 27 false, true, 0, .fieldAddr 34 (.tmp 33) 0⟩,
            ⟨some 35, .some 27 false, true, 32, .load 32 (.tmp 34)⟩,
            ⟨some 36, .some 27 false, true, 4, .call { callee := .value (.func 15), args := #[.tmp 35], argTypes := #[32] }⟩,
            ⟨some 37, .some 20 true, true, 4, .pick (.tmp 27) (.const (.bool true)) (.tmp 36)⟩,
            ⟨some 38, .none, true, 4, .pick (.tmp 20) (.tmp 37) (.const (.bool false))⟩])
        (.keep [1, 3, 4, 7, 8, 9, 38]
        (.cond (.tmp 38)
          (.seq
            (.region [⟨some 2, .none, true, 4, .assign (.const (.bool false))⟩])
          .ret)
          .skip)))
      (.seq
        (.region [⟨some 39, .none, true, 3, .move (.tmp 3)⟩,
          ⟨some 40, .none, true, 4, .binOp .geq 3 (.tmp 39) (.const (.int .i64 2)) 3⟩,
          ⟨some 41, .none, true, 4, .move (.tmp 40)⟩,
          ⟨some 42, .some 41 true, true, 3, .move (.tmp 3)⟩,
          ⟨some 43, .some 41 true, true, 0, .fieldAddr 27 (.tmp 1) 0⟩,
          ⟨some 44, .some 41 true, true, 0, .fieldAddr 23 (.tmp 43) 0⟩,
          ⟨some 45, .some 41 true, true, 3, .load 3 (.tmp 44)⟩,
          ⟨some 46, .some 41 true, true, 3, .binOp .add 3 (.const (.int .i64 2)) (.tmp 45) 3⟩,
          ⟨some 47, .some 41 true, true, 4, .binOp .lss 3 (.tmp 42) (.tmp 46) 3⟩,
          ⟨some 48, .none, true, 4, .pick (.tmp 41) (.tmp 47) (.const (.bool false))⟩,
          ⟨some 5, .none, true, 4, .assign (.tmp 48)⟩])
      (.keep [1, 3, 4, 5, 7, 8, 9]
      (.seq
        (.seq
          (.region [⟨some 49, .none, true, 4, .move (.tmp 5)⟩,
            ⟨some 50, .none, true, 4, .move (.tmp 49)⟩,
            ⟨some 51, .some 50 true, false, 71, .load 71 (.tmp 4)⟩,
            ⟨some 52, .some 50 true, false, 0, .fieldAddr 27 (.tmp 1) 0⟩,
            ⟨some 53, .some 50 true, false, 23, .load 23 (.tmp 52)⟩,
            ⟨some 54, .some 50 true, false, 3, .move (.tmp 3)⟩,
            ⟨some 55, .some 50 true, false, 3, .binOp .sub 3 (.tmp 54) (.const (.int .i64 2)) 3⟩,
            ⟨some 56, .some 50 true, false, 3, .call { callee := .value (.func 19), args := #[.tmp 53, .tmp 55], argTypes := #[23, 3] }⟩,
            ⟨some 57, .some 50 true, false, 71, .build 71 #[(0, .const (.int .i64 2)), (1, .const (.int .i64 3)), (2, .tmp 56)]⟩,
            ⟨some 58, .some 50 true, true, 4, .binOp .neq 71 (.tmp 51) (.tmp 57) 71⟩,
            ⟨some 59, .none, true, 4, .pick (.tmp 50) (.tmp 58) (.const (.bool false))⟩])
        (.keep [1, 3, 4, 5, 7, 8, 9, 59]
        (.cond (.tmp 59)
          (.seq
            (.region [⟨some 2, .none, true, 4, .assign (.const (.bool false))⟩])
          .ret)
          .skip)))
      (.seq
        (.region [⟨some 60, .none, true, 4, .move (.tmp 5)⟩,
          ⟨some 61, .none, true, 4, .unOp .not 4 (.tmp 60)⟩,
          ⟨some 62, .none, true, 4, .move (.tmp 61)⟩,
          ⟨some 63, .some 62 true, true, 0, .fieldAddr 71 (.tmp 4) 0⟩,
          ⟨some 64, .some 62 true, true, 3, .load 3 (.tmp 63)⟩,
          ⟨some 65, .some 62 true, true, 4, .binOp .neq 3 (.tmp 64) (.const (.int .i64 0)) 3⟩,
          ⟨some 66, .none, true, 4, .pick (.tmp 62) (.tmp 65) (.const (.bool false))⟩,
          ⟨some 67, .none, true, 4, .move (.tmp 66)⟩,
          ⟨some 68, .some 67 true, true, 27, .load 27 (.tmp 1)⟩,
          ⟨some 69, .some 67 true, true, 3, .move (.tmp 3)⟩,
          ⟨some 70, .some 67 true, true, 35, .call { callee := .value (.func 55), args := #[.tmp 68, .tmp 69], argTypes := #[27, 3] }⟩,
          ⟨some 71, .some 67 true, true, 3, .call { callee := .builtin .len, args := #[.tmp 70], argTypes := #[35] }⟩,
          ⟨some 72, .some 67 true, true, 4, .binOp .eql 3 (.tmp 71) (.const (.int .i64 0)) 3⟩,
          ⟨some 73, .none, true, 4, .pick (.tmp 67) (.tmp 72) (.const (.bool false))⟩])
      (.keep [1, 7, 8, 9, 73]
      (.cond (.tmp 73)
        (.seq
          (.region [⟨some 2, .none, true, 4, .assign (.const (.bool false))⟩])
        .ret)
        .skip)))))))))))
  (.keep [1, 7, 8, 9]
  (.region [⟨some 74, .none, true, 3, .binOp .add 3 (.tmp 9) (.const (.int .i64 1)) 3⟩,
    ⟨some 9, .none, true, 3, .move (.tmp 74)⟩])))))))
def rc_state_State_things : RCode :=
  (.seq
    (.region [⟨some 1, .none, true, 0, .box 27 (.tmp 0)⟩,
      ⟨some 2, .none, true, 4, .assign (.const (.bool false))⟩])
  (.keep [1]
  (.seq
    (.seq
      (.region [⟨some 6, .none, true, 0, .fieldAddr 27 (.tmp 1) 2⟩,
        ⟨some 7, .none, true, 25, .load 25 (.tmp 6)⟩,
        ⟨some 8, .none, true, 3, .call { callee := .builtin .len, args := #[.tmp 7], argTypes := #[25] }⟩,
        ⟨some 9, .none, true, 3, .move (.const (.int .i64 0))⟩])
    (.keep [1, 7, 8, 9]
    (.block 0
      (.loop [1, 7, 8, 9] rc_state_State_thingsl0))))
  (.seq
    (.region [⟨some 2, .none, true, 4, .assign (.const (.bool true))⟩])
  .ret))))
theorem t_state_State_things : FnT Try.prog f_state_State_things rc_state_State_things [.tmp 2] 1 := ⟨⟨[], Try.f51, _, Try.func51, rfl, by kernel_rfl, by kernel_rfl, by kernel_rfl, rfl, by decide⟩, by kernel_rfl⟩
/-- (reeve/state.State).nodes -/
abbrev f_state_State_nodes : FuncId := 52
def rc_state_State_nodesl0 : RCode :=
  (.seq
    (.region [⟨some 28, .none, true, 4, .binOp .lss 3 (.tmp 27) (.tmp 26) 3⟩])
  (.keep [1, 3, 5, 15, 16, 17, 26, 27, 28]
  (.seq
    (.cond (.tmp 28)
      .skip
      (.exit 2))
  (.keep [1, 3, 5, 15, 16, 17, 26, 27]
  (.seq
    (.block 3
      (.seq
        (.region [⟨some 29, .none, true, 3, .move (.tmp 27)⟩,
          ⟨some 6, .none, true, 3, .assign (.tmp 29)⟩])
      (.keep [1, 3, 5, 6, 15, 16, 17, 26, 27]
      (.seq
        (.region [⟨some 30, .none, true, 0, .fieldAddr 71 (.tmp 5) 2⟩,
          ⟨some 31, .none, true, 3, .load 3 (.tmp 30)⟩,
          ⟨some 32, .none, true, 3, .move (.tmp 6)⟩,
          ⟨some 33, .none, true, 3, .binOp .add 3 (.tmp 31) (.tmp 32) 3⟩,
          ⟨some 7, .none, true, 3, .assign (.tmp 33)⟩])
      (.keep [1, 3, 5, 7, 15, 16, 17, 26, 27]
      (.seq
        (.seq
          (.region [⟨some 34, .none, true, 3, .move (.tmp 7)⟩,
            ⟨some 35, .none, true, 124, .move (.tmp 3)⟩,
            ⟨some 36, .none, true, 3, .call { callee := .builtin .len, args := #[.tmp 35], argTypes := #[124] }⟩,
            ⟨some 37, .none, true, 4, .binOp .geq 3 (.tmp 34) (.tmp 36) 3⟩,
            ⟨some 38, .none, true, 4, .move (.tmp 37)⟩,
            ⟨some 39, .some 38 false, true, 124, .move (.tmp 3)⟩,
            ⟨some 40, .some 38 false, true, 3, .move (.tmp 7)⟩,
            ⟨some 41, .some 38 false, true, 0, .indexAddr 124 (.tmp 39) (.tmp 40)⟩,
            ⟨some 42, .some 38 false, true, 4, .load 4 (.tmp 41)⟩,
            ⟨some 43, .none, true, 4, .pick (.tmp 38) (.const (.bool true)) (.tmp 42)⟩])
        (.keep [1, 3, 5, 7, 15, 16, 17, 26, 27, 43]
        (.cond (.tmp 43)
          (.seq
            (.region [⟨some 2, .none, true, 4, .assign (.const (.bool false))⟩])
          .ret)
          .skip)))
      (.region [⟨some 44, .none, true, 124, .move (.tmp 3)⟩,
        ⟨some 45, .none, true, 3, .move (.tmp 7)⟩,
        ⟨some 46, .none, true, 0, .indexAddr 124 (.tmp 44) (.tmp 45)⟩,
        ⟨none, .none, true, 0, .store 4 (.tmp 46) (.const (.bool true))⟩])))))))
  (.keep [1, 3, 5, 15, 16, 17, 26, 27]
  (.region [⟨some 47, .none, true, 3, .binOp .add 3 (.tmp 27) (.const (.int .i64 1)) 3⟩,
    ⟨some 27, .none, true, 3, .move (.tmp 47)⟩])))))))
def rc_state_State_nodesl1 : RCode :=
  (.seq
    (.region [⟨some 18, .none, true, 0, .binOp .lss 3 (.tmp 17) (.tmp 16) 3⟩])
  (.keep [1, 3, 15, 16, 17, 18]
  (.seq
    (.cond (.tmp 18)
      .skip
      (.exit 0))
  (.keep [1, 3, 15, 16, 17]
  (.seq
    (.block 1
      (.seq
        (.region [⟨some 19, .none, true, 0, .indexAddr 25 (.tmp 15) (.tmp 17)⟩,
          ⟨some 20, .none, true, 71, .load 71 (.tmp 19)⟩,
          ⟨some 5, .none, true, 0, .alloc 71⟩,
          ⟨none, .none, true, 0, .store 71 (.tmp 5) (.tmp 20)⟩])
      (.keep [1, 3, 5, 15, 16, 17]
      (.seq
        (.seq
          (.region [⟨some 21, .none, true, 0, .fieldAddr 71 (.tmp 5) 0⟩,
            ⟨some 22, .none, true, 3, .load 3 (.tmp 21)⟩,
            ⟨some 23, .none, true, 4, .binOp .neq 3 (.tmp 22) (.const (.int .i64 2)) 3⟩])
        (.keep [1, 3, 5, 15, 16, 17, 23]
        (.cond (.tmp 23)
          (.exit 1)
          .skip)))
      (.seq
        (.region [⟨some 24, .none, true, 0, .fieldAddr 71 (.tmp 5) 1⟩,
          ⟨some 25, .none, true, 3, .load 3 (.tmp 24)⟩,
          ⟨some 26, .none, true, 3, .binOp .shl 3 (.const (.int .i64 1)) (.tmp 25) 3⟩,
          ⟨some 27, .none, true, 3, .move (.const (.int .i64 0))⟩])
      (.keep [1, 3, 5, 15, 16, 17, 26, 27]
      (.block 2
        (.loop [1, 3, 5, 15, 16, 17, 26, 27] rc_state_State_nodesl0))))))))
  (.keep [1, 3, 15, 16, 17]
  (.region [⟨some 48, .none, true, 3, .binOp .add 3 (.tmp 17) (.const (.int .i64 1)) 3⟩,
    ⟨some 17, .none, true, 3, .move (.tmp 48)⟩])))))))
def rc_state_State_nodesl2 : RCode :=
  (.seq
    (.region [⟨some 53, .none, true, 0, .binOp .lss 3 (.tmp 52) (.tmp 51) 3⟩])
  (.keep [3, 50, 51, 52, 53]
  (.seq
    (.cond (.tmp 53)
      .skip
      (.exit 4))
  (.keep [3, 50, 51, 52]
  (.seq
    (.block 5
      (.seq
        (.region [⟨some 54, .none, true, 3, .move (.tmp 52)⟩,
          ⟨some 55, .none, true, 0, .indexAddr 24 (.tmp 50) (.tmp 52)⟩,
          ⟨some 56, .none, true, 34, .load 34 (.tmp 55)⟩,
          ⟨some 9, .none, true, 0, .alloc 34⟩,
          ⟨some 8, .none, true, 3, .assign (.tmp 54)⟩,
          ⟨none, .none, true, 0, .store 34 (.tmp 9) (.tmp 56)⟩])
      (.keep [3, 8, 9, 50, 51, 52]
      (.seq
        (.region [⟨some 57, .none, true, 124, .move (.tmp 3)⟩,
          ⟨some 58, .none, true, 3, .move (.tmp 8)⟩,
          ⟨some 59, .none, true, 0, .indexAddr 124 (.tmp 57) (.tmp 58)⟩,
          ⟨some 60, .none, true, 4, .load 4 (.tmp 59)⟩,
          ⟨some 61, .none, true, 4, .unOp .not 4 (.tmp 60)⟩,
          ⟨some 62, .none, true, 4, .move (.tmp 61)⟩,
          ⟨some 63, .some 62 true, true, 0, .fieldAddr 34 (.tmp 9) 0⟩,
          ⟨some 64, .some 62 true, true, 32, .load 32 (.tmp 63)⟩,
          ⟨some 65, .some 62 true, true, 4, .call { callee := .value (.func 15), args := #[.tmp 64], argTypes := #[32] }⟩,
          ⟨some 66, .some 62 true, true, 4, .unOp .not 4 (.tmp 65)⟩,
          ⟨some 67, .none, true, 4, .pick (.tmp 62) (.tmp 66) (.const (.bool false))⟩])
      (.keep [3, 50, 51, 52, 67]
      (.cond (.tmp 67)
        (.seq
          (.region [⟨some 2, .none, true, 4, .assign (.const (.bool false))⟩])
        .ret)
        .skip))))))
  (.keep [3, 50, 51, 52]
  (.region [⟨some 68, .none, true, 3, .binOp .add 3 (.tmp 52) (.const (.int .i64 1)) 3⟩,
    ⟨some 52, .none, true, 3, .move (.tmp 68)⟩])))))))
def rc_state_State_nodes : RCode :=
  (.seq
    (.region [⟨some 1, .none, true, 0, .box 27 (.tmp 0)⟩,
      ⟨some 2, .none, true, 4, .assign (.const (.bool false))⟩])
  (.keep [1]
  (.seq
    (.region [⟨some 10, .none, true, 0, .fieldAddr 27 (.tmp 1) 1⟩,
      ⟨some 11, .none, true, 24, .load 24 (.tmp 10)⟩,
      ⟨some 12, .none, true, 3, .call { callee := .builtin .len, args := #[.tmp 11], argTypes := #[24] }⟩,
      ⟨some 13, .none, true, 124, .makeSlice 124 (.tmp 12) (.tmp 12)⟩,
      ⟨some 3, .none, true, 124, .assign (.tmp 13)⟩])
  (.keep [1, 3]
  (.seq
    (.seq
      (.region [⟨some 14, .none, true, 0, .fieldAddr 27 (.tmp 1) 2⟩,
        ⟨some 15, .none, true, 25, .load 25 (.tmp 14)⟩,
        ⟨some 16, .none, true, 3, .call { callee := .builtin .len, args := #[.tmp 15], argTypes := #[25] }⟩,
        ⟨some 17, .none, true, 3, .move (.const (.int .i64 0))⟩])
    (.keep [1, 3, 15, 16, 17]
    (.block 0
      (.loop [1, 3, 15, 16, 17] rc_state_State_nodesl1))))
  (.seq
    (.seq
      (.region [⟨some 49, .none, true, 0, .fieldAddr 27 (.tmp 1) 1⟩,
        ⟨some 50, .none, true, 24, .load 24 (.tmp 49)⟩,
        ⟨some 51, .none, true, 3, .call { callee := .builtin .len, args := #[.tmp 50], argTypes := #[24] }⟩,
        ⟨some 52, .none, true, 3, .move (.const (.int .i64 0))⟩])
    (.keep [3, 50, 51, 52]
    (.block 4
      (.loop [3, 50, 51, 52] rc_state_State_nodesl2))))
  (.seq
    (.region [⟨some 2, .none, true, 4, .assign (.const (.bool true))⟩])
  .ret)))))))
theorem t_state_State_nodes : FnT Try.prog f_state_State_nodes rc_state_State_nodes [.tmp 2] 1 := ⟨⟨[], Try.f52, _, Try.func52, rfl, by kernel_rfl, by kernel_rfl, by kernel_rfl, rfl, by decide⟩, by kernel_rfl⟩
/-- (reeve/state.State).ring -/
abbrev f_state_State_ring : FuncId := 53
def rc_state_State_ringl0 : RCode :=
  (.seq
    (.region [⟨some 9, .none, true, 0, .binOp .lss 3 (.tmp 8) (.tmp 7) 3⟩])
  (.keep [1, 6, 7, 8, 9]
  (.seq
    (.cond (.tmp 9)
      .skip
      (.exit 0))
  (.keep [1, 6, 7, 8]
  (.seq
    (.block 1
      (.seq
        (.region [⟨some 10, .none, true, 3, .move (.tmp 8)⟩,
          ⟨some 11, .none, true, 0, .indexAddr 24 (.tmp 6) (.tmp 8)⟩,
          ⟨some 12, .none, true, 34, .load 34 (.tmp 11)⟩,
          ⟨some 4, .none, true, 0, .alloc 34⟩,
          ⟨some 3, .none, true, 3, .assign (.tmp 10)⟩,
          ⟨none, .none, true, 0, .store 34 (.tmp 4) (.tmp 12)⟩])
      (.keep [1, 3, 4, 6, 7, 8]
      (.seq
        (.region [⟨some 13, .none, true, 0, .fieldAddr 34 (.tmp 4) 0⟩,
          ⟨some 14, .none, true, 0, .fieldAddr 32 (.tmp 13) 0⟩,
          ⟨some 15, .none, true, 3, .load 3 (.tmp 14)⟩,
          ⟨some 16, .none, true, 4, .binOp .eql 3 (.tmp 15) (.const (.int .i64 2)) 3⟩,
          ⟨some 17, .none, true, 4, .move (.tmp 16)⟩,
          ⟨some 18, .some 17 true, true, 27, .load 27 (.tmp 1)⟩,
          ⟨some 19, .some 17 true, true, 0, .fieldAddr 34 (.tmp 4) 0⟩,
          ⟨some 20, .some 17 true, true, 0, .fieldAddr 32 (.tmp 19) 1⟩,
          ⟨some 21, .some 17 true, true, 3, .load 3 (.tmp 20)⟩,
          ⟨some 22, .some 17 true, true, 3, .move (.tmp 3)⟩,
          ⟨some 23, .some 17 true, true, 4, .call { callee := .value (.func 71), args := #[.tmp 18, .tmp 21, .tmp 22], argTypes := #[27, 3, 3] }⟩,
          ⟨some 24, .none, true, 4, .pick (.tmp 17) (.tmp 23) (.const (.bool false))⟩])
      (.keep [1, 6, 7, 8, 24]
      (.cond (.tmp 24)
        (.seq
          (.region [⟨some 2, .none, true, 4, .assign (.const (.bool true))⟩])
        .ret)
        .skip))))))
  (.keep [1, 6, 7, 8]
  (.region [⟨some 25, .none, true, 3, .binOp .add 3 (.tmp 8) (.const (.int .i64 1)) 3⟩,
    ⟨some 8, .none, true, 3, .move (.tmp 25)⟩])))))))
def rc_state_State_ring : RCode :=
  (.seq
    (.region [⟨some 1, .none, true, 0, .box 27 (.tmp 0)⟩,
      ⟨some 2, .none, true, 4, .assign (.const (.bool false))⟩])
  (.keep [1]
  (.seq
    (.seq
      (.region [⟨some 5, .none, true, 0, .fieldAddr 27 (.tmp 1) 1⟩,
        ⟨some 6, .none, true, 24, .load 24 (.tmp 5)⟩,
        ⟨some 7, .none, true, 3, .call { callee := .builtin .len, args := #[.tmp 6], argTypes := #[24] }⟩,
        ⟨some 8, .none, true, 3, .move (.const (.int .i64 0))⟩])
    (.keep [1, 6, 7, 8]
    (.block 0
      (.loop [1, 6, 7, 8] rc_state_State_ringl0))))
  (.seq
    (.region [⟨some 2, .none, true, 4, .assign (.const (.bool false))⟩])
  .ret))))
theorem t_state_State_ring : FnT Try.prog f_state_State_ring rc_state_State_ring [.tmp 2] 1 := ⟨⟨[], Try.f53, _, Try.func53, rfl, by kernel_rfl, by kernel_rfl, by kernel_rfl, rfl, by decide⟩, by kernel_rfl⟩
/-- (reeve/state.State).allowed -/
abbrev f_state_State_allowed : FuncId := 54
def rc_state_State_allowedl0 : RCode :=
  (.seq
    (.region [⟨some 10, .none, true, 0, .binOp .lss 3 (.tmp 9) (.tmp 8) 3⟩])
  (.keep [1, 7, 8, 9, 10]
  (.seq
    (.cond (.tmp 10)
      .skip
      (.exit 0))
  (.keep [1, 7, 8, 9]
  (.seq
    (.block 1
      (.seq
        (.region [⟨some 11, .none, true, 0, .indexAddr 24 (.tmp 7) (.tmp 9)⟩,
          ⟨some 12, .none, true, 34, .load 34 (.tmp 11)⟩,
          ⟨some 4, .none, true, 0, .alloc 34⟩,
          ⟨none, .none, true, 0, .store 34 (.tmp 4) (.tmp 12)⟩])
      (.keep [1, 4, 7, 8, 9]
      (.seq
        (.seq
          (.region [⟨some 13, .none, true, 0, .fieldAddr 34 (.tmp 4) 1⟩,
            ⟨some 14, .none, true, 3, .load 3 (.tmp 13)⟩,
            ⟨some 15, .none, true, 4, .binOp .lss 3 (.tmp 14) (.const (.int .i64 0)) 3⟩])
        (.keep [1, 4, 7, 8, 9, 15]
        (.cond (.tmp 15)
          (.exit 1)
          .skip)))
      (.seq
        (.region [⟨some 16, .none, true, 0, .fieldAddr 27 (.tmp 1) 1⟩,
          ⟨some 17, .none, true, 24, .load 24 (.tmp 16)⟩,
          ⟨some 18, .none, true, 0, .fieldAddr 34 (.tmp 4) 1⟩,
          ⟨some 19, .none, true, 3, .load 3 (.tmp 18)⟩,
          ⟨some 20, .none, true, 0, .indexAddr 24 (.tmp 17) (.tmp 19)⟩,
          ⟨some 21, .none, true, 0, .fieldAddr 34 (.tmp 20) 0⟩,
          ⟨some 22, .none, true, 32, .load 32 (.tmp 21)⟩,
          ⟨some 5, .none, true, 0, .alloc 32⟩,
          ⟨none, .none, true, 0, .store 32 (.tmp 5) (.tmp 22)⟩])
      (.keep [1, 4, 5, 7, 8, 9]
      (.seq
        (.region [⟨some 23, .none, true, 0, .fieldAddr 34 (.tmp 4) 0⟩,
          ⟨some 24, .none, true, 32, .load 32 (.tmp 23)⟩,
          ⟨some 25, .none, true, 32, .load 32 (.tmp 5)⟩,
          ⟨some 26, .none, true, 4, .call { callee := .value (.func 95), args := #[.tmp 24, .tmp 25], argTypes := #[32, 32] }⟩,
          ⟨some 27, .none, true, 4, .unOp .not 4 (.tmp 26)⟩,
          ⟨some 28, .none, true, 4, .move (.tmp 27)⟩,
          ⟨some 29, .some 28 true, true, 0, .fieldAddr 32 (.tmp 5) 0⟩,
          ⟨some 30, .some 28 true, true, 3, .load 3 (.tmp 29)⟩,
          ⟨some 31, .some 28 true, true, 4, .binOp .neq 3 (.tmp 30) (.const (.int .i64 1)) 3⟩,
          ⟨some 32, .some 28 true, true, 4, .move (.tmp 31)⟩,
          ⟨some 33, .some 32 false, true, 0, .fieldAddr 34 (.tmp 4) 0⟩,
          ⟨some 34, .some 32 false, true, 0, .fieldAddr 32 (.tmp 33) 1⟩,
          ⟨some 35, .some 32 false, true, 3, .load 3 (.tmp 34)⟩,
          ⟨some 36, .some 32 false, true, 0, .fieldAddr 32 (.tmp 5) 1⟩,
          ⟨some 37, .some 32 false, true, 3, .load 3 (.tmp 36)⟩,
          ⟨some 38, .some 32 false, true, 4, .binOp .eql 3 (.tmp 35) (.tmp 37) 3⟩,
          ⟨some 39, .some 28 true, true, 4, .pick (.tmp 32) (.const (.bool true)) (.tmp 38)⟩,
          ⟨some 40, .none, true, 4, .pick (.tmp 28) (.tmp 39) (.const (.bool false))⟩])
      (.keep [1, 7, 8, 9, 40]
      (.cond (.tmp 40)
        (.seq
          (.region [⟨some 2, .none, true, 4, .assign (.const (.bool false))⟩])
        .ret)
        .skip)))))))))
  (.keep [1, 7, 8, 9]
  (.region [⟨some 41, .none, true, 3, .binOp .add 3 (.tmp 9) (.const (.int .i64 1)) 3⟩,
    ⟨some 9, .none, true, 3, .move (.tmp 41)⟩])))))))
def rc_state_State_allowed : RCode :=
  (.seq
    (.region [⟨some 1, .none, true, 0, .box 27 (.tmp 0)⟩,
      ⟨some 2, .none, true, 4, .assign (.const (.bool false))⟩])
  (.keep [1]
  (.seq
    (.seq
      (.region [⟨some 6, .none, true, 0, .fieldAddr 27 (.tmp 1) 1⟩,
        ⟨some 7, .none, true, 24, .load 24 (.tmp 6)⟩,
        ⟨some 8, .none, true, 3, .call { callee := .builtin .len, args := #[.tmp 7], argTypes := #[24] }⟩,
        ⟨some 9, .none, true, 3, .move (.const (.int .i64 0))⟩])
    (.keep [1, 7, 8, 9]
    (.block 0
      (.loop [1, 7, 8, 9] rc_state_State_allowedl0))))
  (.seq
    (.region [⟨some 2, .none, true, 4, .assign (.const (.bool true))⟩])
  .ret))))
theorem t_state_State_allowed : FnT Try.prog f_state_State_allowed rc_state_State_allowed [.tmp 2] 1 := ⟨⟨[], Try.f54, _, Try.func54, rfl, by kernel_rfl, by kernel_rfl, by kernel_rfl, rfl, by decide⟩, by kernel_rfl⟩
/-- (reeve/state.State).holders -/
abbrev f_state_State_holders : FuncId := 55
def rc_state_State_holdersl0 : RCode :=
  (.seq
    (.region [⟨some 12, .none, true, 0, .binOp .lss 3 (.tmp 11) (.tmp 10) 3⟩])
  (.keep [1, 5, 9, 10, 11, 12]
  (.seq
    (.cond (.tmp 12)
      .skip
      (.exit 0))
  (.keep [1, 5, 9, 10, 11]
  (.seq
    (.block 1
      (.seq
        (.region [⟨some 13, .none, true, 3, .move (.tmp 11)⟩,
          ⟨some 14, .none, true, 0, .indexAddr 24 (.tmp 9) (.tmp 11)⟩,
          ⟨some 15, .none, true, 34, .load 34 (.tmp 14)⟩,
          ⟨some 7, .none, true, 0, .alloc 34⟩,
          ⟨some 6, .none, true, 3, .assign (.tmp 13)⟩,
          ⟨none, .none, true, 0, .store 34 (.tmp 7) (.tmp 15)⟩])
      (.keep [1, 5, 6, 7, 9, 10, 11]
      (.seq
        (.region [⟨some 16, .none, true, 0, .fieldAddr 34 (.tmp 7) 0⟩,
          ⟨some 17, .none, true, 32, .load 32 (.tmp 16)⟩,
          ⟨some 18, .none, true, 4, .call { callee := .value (.func 15), args := #[.tmp 17], argTypes := #[32] }⟩,
          ⟨some 19, .none, true, 4, .unOp .not 4 (.tmp 18)⟩,
          ⟨some 20, .none, true, 4, .move (.tmp 19)⟩,
          ⟨some 21, .some 20 true, true, 0, .fieldAddr 34 (.tmp 7) 0⟩,
          ⟨some 22, .some 20 true, true, 0, .fieldAddr 32 (.tmp 21) 1⟩,
          ⟨some 23, .some 20 true, true, 3, .load 3 (.tmp 22)⟩,
          ⟨some 24, .some 20 true, true, 3, .move (.tmp 1)⟩,
          ⟨some 25, .some 20 true, true, 4, .binOp .eql 3 (.tmp 23) (.tmp 24) 3⟩,
          ⟨some 26, .none, true, 4, .pick (.tmp 20) (.tmp 25) (.const (.bool false))⟩])
      (.keep [1, 5, 6, 9, 10, 11, 26]
      (.cond (.tmp 26)
        (.region [⟨some 27, .none, true, 35, .move (.tmp 5)⟩,
          ⟨some 28, .none, true, 3, .move (.tmp 6)⟩,
          ⟨some 29, .none, true, 35, .buildSlice 35 1 #[(0, .tmp 28)]⟩,
          ⟨some 30, .none, true, 35, .call { callee := .builtin .append, args := #[.tmp 27, .tmp 29], argTypes := #[35, 35] }⟩,
          ⟨some 5, .none, true, 35, .assign (.tmp 30)⟩])
        .skip))))))
  (.keep [1, 5, 9, 10, 11]
  (.region [⟨some 31, .none, true, 3, .binOp .add 3 (.tmp 11) (.const (.int .i64 1)) 3⟩,
    ⟨some 11, .none, true, 3, .move (.tmp 31)⟩])))))))
def rc_state_State_holders : RCode :=
  (.seq
    (.region [⟨some 2, .none, true, 0, .box 27 (.tmp 0)⟩,
      ⟨some 4, .none, true, 35, .assign (.const (.slice none 0 0))⟩])
  (.keep [1, 2]
  (.seq
    (.region [⟨some 5, .none, true, 35, .assign (.const (.slice none 0 0))⟩])
  (.keep [1, 2, 5]
  (.seq
    (.seq
      (.region [⟨some 8, .none, true, 0, .fieldAddr 27 (.tmp 2) 1⟩,
        ⟨some 9, .none, true, 24, .load 24 (.tmp 8)⟩,
        ⟨some 10, .none, true, 3, .call { callee := .builtin .len, args := #[.tmp 9], argTypes := #[24] }⟩,
        ⟨some 11, .none, true, 3, .move (.const (.int .i64 0))⟩])
    (.keep [1, 5, 9, 10, 11]
    (.block 0
      (.loop [1, 5, 9, 10, 11] rc_state_State_holdersl0))))
  (.seq
    (.region [⟨some 32, .none, true, 35, .move (.tmp 5)⟩,
      ⟨some 4, .none, true, 35, .assign (.tmp 32)⟩])
  .ret))))))
theorem t_state_State_holders : FnT Try.prog f_state_State_holders rc_state_State_holders [.tmp 4] 2 := ⟨⟨[], Try.f55, _, Try.func55, rfl, by kernel_rfl, by kernel_rfl, by kernel_rfl, rfl, by decide⟩, by kernel_rfl⟩
/-- reeve/thing.New -/
abbrev f_thing_New : FuncId := 56
def rc_thing_New : RCode :=
  (.seq
    (.region [⟨some 6, .none, true, 0, .alloc 71⟩,
      ⟨some 7, .none, true, 4, .assign (.const (.bool false))⟩])
  (.keep [0, 1, 2, 6]
  (.seq
    (.region [⟨some 9, .none, true, 3, .move (.tmp 0)⟩,
      ⟨some 10, .none, true, 71, .build 71 #[(0, .tmp 9)]⟩,
      ⟨some 8, .none, true, 0, .alloc 71⟩,
      ⟨none, .none, true, 0, .store 71 (.tmp 8) (.tmp 10)⟩])
  (.keep [0, 1, 2, 6, 8]
  (.seq
    (.seq
      (.region [⟨some 11, .none, true, 3, .move (.tmp 0)⟩])
    (.keep [1, 2, 6, 8, 11]
    (.block 0
      (.seq
        (.region [⟨some 14, .none, true, 4, .binOp .eql 3 (.tmp 11) (.const (.int .i64 1)) 3⟩,
          ⟨some 13, .none, true, 4, .assign (.tmp 14)⟩])
      (.keep [1, 2, 6, 8, 11, 13]
      (.cond (.tmp 13)
        (.region [⟨some 15, .none, true, 3, .move (.tmp 1)⟩,
          ⟨some 16, .none, true, 0, .fieldAddr 71 (.tmp 8) 3⟩,
          ⟨none, .none, true, 0, .store 3 (.tmp 16) (.tmp 15)⟩])
        (.seq
          (.region [⟨some 18, .none, true, 4, .binOp .eql 3 (.tmp 11) (.const (.int .i64 2)) 3⟩,
            ⟨some 17, .none, true, 4, .assign (.tmp 18)⟩])
        (.keep [1, 2, 6, 8, 11, 17]
        (.cond (.tmp 17)
          (.region [⟨some 19, .none, true, 3, .move (.tmp 1)⟩,
            ⟨some 20, .none, true, 3, .move (.tmp 2)⟩,
            ⟨some 21, .none, true, 0, .fieldAddr 71 (.tmp 8) 1⟩,
            ⟨none, .none, true, 0, .store 3 (.tmp 21) (.tmp 19)⟩,
            ⟨some 22, .none, true, 0, .fieldAddr 71 (.tmp 8) 2⟩,
            ⟨none, .none, true, 0, .store 3 (.tmp 22) (.tmp 20)⟩])
          (.seq
            (.seq
              (.region [⟨some 24, .none, true, 4, .binOp .eql 3 (.tmp 11) (.const (.int .i64 3)) 3⟩,
                ⟨some 23, .none, true, 4, .assign (.tmp 24)⟩])
            (.keep [6, 8, 11, 23]
            (.cond (.tmp 23)
              .skip
              (.seq
                (.region [⟨some 25, .none, true, 4, .binOp .eql 3 (.tmp 11) (.const (.int .i64 4)) 3⟩,
                  ⟨some 23, .none, true, 4, .assign (.tmp 25)⟩])
              (.keep [6, 8, 11, 23]
              (.cond (.tmp 23)
                .skip
                (.region [⟨some 26, .none, true, 4, .binOp .eql 3 (.tmp 11) (.const (.int .i64 5)) 3⟩,
                  ⟨some 23, .none, true, 4, .assign (.tmp 26)⟩])))))))
          (.cond (.tmp 23)
            .skip
            (.seq
              (.region [⟨some 12, .none, true, 71, .build 71 #[]⟩,
                ⟨none, .none, true, 0, .store 71 (.tmp 6) (.tmp 12)⟩,
                ⟨some 7, .none, true, 4, .assign (.const (.bool false))⟩])
            .ret))))))))))))
  (.seq
    (.seq
      (.region [⟨some 27, .none, true, 71, .load 71 (.tmp 8)⟩,
        ⟨some 28, .none, true, 4, .call { callee := .value (.func 94), args := #[.tmp 27], argTypes := #[71] }⟩,
        ⟨some 29, .none, true, 4, .unOp .not 4 (.tmp 28)⟩])
    (.keep [6, 8, 29]
    (.cond (.tmp 29)
      (.seq
        (.region [⟨some 30, .none, true, 71, .build 71 #[]⟩,
          ⟨none, .none, true, 0, .store 71 (.tmp 6) (.tmp 30)⟩,
          ⟨some 7, .none, true, 4, .assign (.const (.bool false))⟩])
      .ret)
      .skip)))
  (.seq
    (.region [⟨some 31, .none, true, 71, .load 71 (.tmp 8)⟩,
      ⟨none, .none, true, 0, .store 71 (.tmp 6) (.tmp 31)⟩,
      ⟨some 7, .none, true, 4, .assign (.const (.bool true))⟩])
  .ret)))))))
theorem t_thing_New : FnT Try.prog f_thing_New rc_thing_New [.cell 6 71, .tmp 7] 3 := ⟨⟨[], Try.f56, _, Try.func56, rfl, by kernel_rfl, by kernel_rfl, by kernel_rfl, rfl, by decide⟩, by kernel_rfl⟩
/-- reeve/geo.in -/
abbrev f_geo_in : FuncId := 57
def rc_geo_in : RCode :=
  (.seq
    (.region [⟨some 6, .none, true, 4, .assign (.const (.bool false))⟩])
  (.keep [0, 1, 2]
  (.seq
    (.region [⟨some 7, .none, true, 3, .move (.tmp 0)⟩,
      ⟨some 8, .none, true, 3, .move (.tmp 1)⟩,
      ⟨some 9, .none, true, 4, .binOp .geq 3 (.tmp 7) (.tmp 8) 3⟩,
      ⟨some 10, .none, true, 4, .move (.tmp 9)⟩,
      ⟨some 11, .some 10 true, true, 3, .move (.tmp 0)⟩,
      ⟨some 12, .some 10 true, true, 3, .move (.tmp 2)⟩,
      ⟨some 13, .some 10 true, true, 4, .binOp .leq 3 (.tmp 11) (.tmp 12) 3⟩,
      ⟨some 14, .none, true, 4, .pick (.tmp 10) (.tmp 13) (.const (.bool false))⟩,
      ⟨some 6, .none, true, 4, .assign (.tmp 14)⟩])
  .ret)))
theorem t_geo_in : FnT Try.prog f_geo_in rc_geo_in [.tmp 6] 3 := ⟨⟨[], Try.f57, _, Try.func57, rfl, by kernel_rfl, by kernel_rfl, by kernel_rfl, rfl, by decide⟩, by kernel_rfl⟩
/-- (reeve/state.State).owner -/
abbrev f_state_State_owner : FuncId := 58
def rc_state_State_owner : RCode :=
  (.seq
    (.region [⟨some 2, .none, true, 0, .box 27 (.tmp 0)⟩,
      ⟨some 3, .none, true, 0, .box 3 (.tmp 1)⟩,
      ⟨some 4, .none, true, 3, .assign (.const (.int .i64 0))⟩])
  (.keep [2, 3]
  (.seq
    (.region [⟨some 5, .none, true, 0, .fieldAddr 27 (.tmp 2) 2⟩,
      ⟨some 6, .none, true, 25, .load 25 (.tmp 5)⟩,
      ⟨some 7, .none, true, 99, .makeFunc (.func 96) #[] #[.tmp 3]⟩,
      ⟨some 8, .none, true, 3, .call { callee := .value (.func 59), args := #[.tmp 6, .tmp 7], argTypes := #[25, 99] }⟩,
      ⟨some 4, .none, true, 3, .assign (.tmp 8)⟩])
  .ret)))
theorem t_state_State_owner : FnT Try.prog f_state_State_owner rc_state_State_owner [.tmp 4] 2 := ⟨⟨[], Try.f58, _, Try.func58, rfl, by kernel_rfl, by kernel_rfl, by kernel_rfl, rfl, by decide⟩, by kernel_rfl⟩
/-- slices.IndexFunc[[]reeve/thing.Thing,reeve/thing.Thing] -/
abbrev f_slices_IndexFunc_S_thing_Thing_thing_Thing : FuncId := 59
def rc_slices_IndexFunc_S_thing_Thing_thing_Thingl0 : RCode :=
  (.seq
    (.region [⟨some 9, .none, true, 0, .binOp .lss 3 (.tmp 8) (.tmp 7) 3⟩])
  (.keep [0, 1, 7, 8, 9]
  (.seq
    (.cond (.tmp 9)
      .skip
      (.exit 0))
  (.keep [0, 1, 7, 8]
  (.seq
    (.block 1
      (.seq
        (.region [⟨some 10, .none, true, 3, .move (.tmp 8)⟩,
          ⟨some 5, .none, true, 3, .assign (.tmp 10)⟩])
      (.keep [0, 1, 5, 7, 8]
      (.seq
        (.region [⟨some 11, .none, true, 99, .move (.tmp 1)⟩,
          ⟨some 12, .none, true, 25, .move (.tmp 0)⟩,
          ⟨some 13, .none, true, 3, .move (.tmp 5)⟩,
          ⟨some 14, .none, true, 0, .indexAddr 25 (.tmp 12) (.tmp 13)⟩,
          ⟨some 15, .none, true, 71, .load 71 (.tmp 14)⟩,
          ⟨some 16, .none, true, 4, .call { callee := .value (.tmp 11), args := #[.tmp 15], argTypes := #[71] }⟩])
      (.keep [0, 1, 5, 7, 8, 16]
      (.cond (.tmp 16)
        (.seq
          (.region [⟨some 17, .none, true, 3, .move (.tmp 5)⟩,
            ⟨some 4, .none, true, 3, .assign (.tmp 17)⟩])
        .ret)
        .skip))))))
  (.keep [0, 1, 7, 8]
  (.region [⟨some 18, .none, true, 3, .binOp .add 3 (.tmp 8) (.const (.int .i64 1)) 3⟩,
    ⟨some 8, .none, true, 3, .move (.tmp 18)⟩])))))))
def rc_slices_IndexFunc_S_thing_Thing_thing_Thing : RCode :=
  (.seq
    (.region [⟨some 4, .none, true, 3, .assign (.const (.int .i64 0))⟩])
  (.keep [0, 1]
  (.seq
    (.seq
      (.region [⟨some 6, .none, true, 25, .move (.tmp 0)⟩,
        ⟨some 7, .none, true, 3, .call { callee := .builtin .len, args := #[.tmp 6], argTypes := #[25] }⟩,
        ⟨some 8, .none, true, 3, .move (.const (.int .i64 0))⟩])
    (.keep [0, 1, 7, 8]
    (.block 0
      (.loop [0, 1, 7, 8] rc_slices_IndexFunc_S_thing_Thing_thing_Thingl0))))
  (.seq
    (.region [⟨some 4, .none, true, 3, .assign (.const (.int .i64 (-1)))⟩])
  .ret))))
theorem t_slices_IndexFunc_S_thing_Thing_thing_Thing : FnT Try.prog f_slices_IndexFunc_S_thing_Thing_thing_Thing rc_slices_IndexFunc_S_thing_Thing_thing_Thing [.tmp 4] 2 := ⟨⟨[], Try.f59, _, Try.func59, rfl, by kernel_rfl, by kernel_rfl, by kernel_rfl, rfl, by decide⟩, by kernel_rfl⟩
/-- reeve/reevelaw13.first -/
abbrev f_reevelaw13_first : FuncId := 66
def rc_reevelaw13_first : RCode :=
  (.seq
    (.region [⟨some 0, .none, true, 0, .alloc 27⟩])
  (.keep [0]
  (.seq
    (.region [⟨some 4, .none, true, 23, .call { callee := .value (.func 31), args := #[], argTypes := #[] }⟩,
      ⟨some 5, .none, true, 38, .call { callee := .value (.func 17), args := #[.tmp 4, .const (.int .i64 64)], argTypes := #[23, 3] }⟩,
      ⟨some 3, .none, true, 38, .move (.tmp 5)⟩,
      ⟨some 6, .none, true, 27, .extract (.tmp 3) 0⟩,
      ⟨some 7, .none, true, 37, .extract (.tmp 3) 1⟩,
      ⟨some 1, .none, true, 0, .alloc 27⟩,
      ⟨none, .none, true, 0, .store 27 (.tmp 1) (.tmp 6)⟩,
      ⟨some 2, .none, true, 37, .assign (.tmp 7)⟩])
  (.keep [0, 1]
  (.seq
    (.region [⟨some 8, .none, true, 27, .load 27 (.tmp 1)⟩,
      ⟨none, .none, true, 0, .store 27 (.tmp 0) (.tmp 8)⟩])
  .ret)))))
theorem t_reevelaw13_first : FnT Try.prog f_reevelaw13_first rc_reevelaw13_first [.cell 0 27] 0 := ⟨⟨[], Try.f66, _, Try.func66, rfl, by kernel_rfl, by kernel_rfl, by kernel_rfl, rfl, by decide⟩, by kernel_rfl⟩
/-- reeve/find.in -/
abbrev f_find_in : FuncId := 67
def rc_find_in : RCode :=
  (.seq
    (.region [⟨some 6, .none, true, 4, .assign (.const (.bool false))⟩])
  (.keep [0, 1, 2]
  (.seq
    (.region [⟨some 7, .none, true, 3, .move (.tmp 0)⟩,
      ⟨some 8, .none, true, 3, .move (.tmp 1)⟩,
      ⟨some 9, .none, true, 4, .binOp .geq 3 (.tmp 7) (.tmp 8) 3⟩,
      ⟨some 10, .none, true, 4, .move (.tmp 9)⟩,
      ⟨some 11, .some 10 true, true, 3, .move (.tmp 0)⟩,
      ⟨some 12, .some 10 true, true, 3, .move (.tmp 2)⟩,
      ⟨some 13, .some 10 true, true, 4, .binOp .leq 3 (.tmp 11) (.tmp 12) 3⟩,
      ⟨some 14, .none, true, 4, .pick (.tmp 10) (.tmp 13) (.const (.bool false))⟩,
      ⟨some 6, .none, true, 4, .assign (.tmp 14)⟩])
  .ret)))
theorem t_find_in : FnT Try.prog f_find_in rc_find_in [.tmp 6] 3 := ⟨⟨[], Try.f67, _, Try.func67, rfl, by kernel_rfl, by kernel_rfl, by kernel_rfl, rfl, by decide⟩, by kernel_rfl⟩
/-- reeve/find.through -/
abbrev f_find_through : FuncId := 68
def rc_find_through : RCode :=
  (.seq
    (.region [⟨some 2, .none, true, 0, .box 27 (.tmp 0)⟩,
      ⟨some 4, .none, true, 0, .alloc 71⟩,
      ⟨some 5, .none, true, 4, .assign (.const (.bool false))⟩])
  (.keep [1, 2, 4]
  (.seq
    (.region [⟨some 7, .none, true, 0, .fieldAddr 27 (.tmp 2) 1⟩,
      ⟨some 8, .none, true, 24, .load 24 (.tmp 7)⟩,
      ⟨some 9, .none, true, 3, .move (.tmp 1)⟩,
      ⟨some 10, .none, true, 0, .indexAddr 24 (.tmp 8) (.tmp 9)⟩,
      ⟨some 11, .none, true, 0, .fieldAddr 34 (.tmp 10) 0⟩,
      ⟨some 12, .none, true, 32, .load 32 (.tmp 11)⟩,
      ⟨some 6, .none, true, 0, .alloc 32⟩,
      ⟨none, .none, true, 0, .store 32 (.tmp 6) (.tmp 12)⟩])
  (.keep [2, 4, 6]
  (.seq
    (.seq
      (.region [⟨some 13, .none, true, 0, .fieldAddr 32 (.tmp 6) 0⟩,
        ⟨some 14, .none, true, 3, .load 3 (.tmp 13)⟩,
        ⟨some 15, .none, true, 4, .binOp .neq 3 (.tmp 14) (.const (.int .i64 2)) 3⟩,
        ⟨some 16, .none, true, 4, .move (.tmp 15)⟩,
        ⟨some 17, .some 16 false, true, 0, .fieldAddr 32 (.tmp 6) 2⟩,
        ⟨some 18, .some 16 false, true, 3, .load 3 (.tmp 17)⟩,
        ⟨some 19, .some 16 false, true, 4, .call { callee := .value (.func 98), args := #[.const (.int .i64 1), .tmp 18], argTypes := #[3, 3] }⟩,
        ⟨some 20, .some 16 false, true, 4, .unOp .not 4 (.tmp 19)⟩,
        ⟨some 21, .none, true, 4, .pick (.tmp 16) (.const (.bool true)) (.tmp 20)⟩])
    (.keep [2, 4, 6, 21]
    (.cond (.tmp 21)
      (.seq
        (.region [⟨some 22, .none, true, 71, .build 71 #[]⟩,
          ⟨none, .none, true, 0, .store 71 (.tmp 4) (.tmp 22)⟩,
          ⟨some 5, .none, true, 4, .assign (.const (.bool false))⟩])
      .ret)
      .skip)))
  (.seq
    (.region [⟨some 23, .none, true, 0, .fieldAddr 27 (.tmp 2) 2⟩,
      ⟨some 24, .none, true, 25, .load 25 (.tmp 23)⟩,
      ⟨some 25, .none, true, 0, .fieldAddr 32 (.tmp 6) 1⟩,
      ⟨some 26, .none, true, 3, .load 3 (.tmp 25)⟩,
      ⟨some 27, .none, true, 0, .indexAddr 25 (.tmp 24) (.tmp 26)⟩,
      ⟨some 28, .none, true, 71, .load 71 (.tmp 27)⟩,
      ⟨none, .none, true, 0, .store 71 (.tmp 4) (.tmp 28)⟩,
      ⟨some 5, .none, true, 4, .assign (.const (.bool true))⟩])
  .ret))))))
theorem t_find_through : FnT Try.prog f_find_through rc_find_through [.cell 4 71, .tmp 5] 2 := ⟨⟨[], Try.f68, _, Try.func68, rfl, by kernel_rfl, by kernel_rfl, by kernel_rfl, rfl, by decide⟩, by kernel_rfl⟩
/-- reeve/find.step -/
abbrev f_find_step : FuncId := 69
def rc_find_step : RCode :=
  (.seq
    (.region [⟨some 2, .none, true, 0, .box 71 (.tmp 0)⟩,
      ⟨some 4, .none, true, 3, .assign (.const (.int .i64 0))⟩])
  (.keep [1, 2]
  (.seq
    (.seq
      (.region [⟨some 5, .none, true, 3, .move (.tmp 1)⟩,
        ⟨some 6, .none, true, 0, .fieldAddr 71 (.tmp 2) 1⟩,
        ⟨some 7, .none, true, 3, .load 3 (.tmp 6)⟩,
        ⟨some 8, .none, true, 3, .binOp .shl 3 (.const (.int .i64 1)) (.tmp 7) 3⟩,
        ⟨some 9, .none, true, 4, .binOp .geq 3 (.tmp 5) (.tmp 8) 3⟩])
    (.keep [1, 2, 9]
    (.cond (.tmp 9)
      (.seq
        (.region [⟨some 4, .none, true, 3, .assign (.const (.int .i64 (-1)))⟩])
      .ret)
      .skip)))
  (.seq
    (.region [⟨some 10, .none, true, 0, .fieldAddr 71 (.tmp 2) 2⟩,
      ⟨some 11, .none, true, 3, .load 3 (.tmp 10)⟩,
      ⟨some 12, .none, true, 3, .move (.tmp 1)⟩,
      ⟨some 13, .none, true, 3, .binOp .add 3 (.tmp 11) (.tmp 12) 3⟩,
      ⟨some 4, .none, true, 3, .assign (.tmp 13)⟩])
  .ret))))
theorem t_find_step : FnT Try.prog f_find_step rc_find_step [.tmp 4] 2 := ⟨⟨[], Try.f69, _, Try.func69, rfl, by kernel_rfl, by kernel_rfl, by kernel_rfl, rfl, by decide⟩, by kernel_rfl⟩
/-- (reeve/forest.Forest).is -/
abbrev f_forest_Forest_is : FuncId := 70
def rc_forest_Forest_is : RCode :=
  (.seq
    (.region [⟨some 2, .none, true, 0, .box 73 (.tmp 0)⟩,
      ⟨some 4, .none, true, 4, .assign (.const (.bool false))⟩])
  (.keep [1, 2]
  (.seq
    (.region [⟨some 5, .none, true, 3, .move (.tmp 1)⟩,
      ⟨some 6, .none, true, 4, .binOp .geq 3 (.tmp 5) (.const (.int .i64 0)) 3⟩,
      ⟨some 7, .none, true, 4, .move (.tmp 6)⟩,
      ⟨some 8, .some 7 true, true, 3, .move (.tmp 1)⟩,
      ⟨some 9, .some 7 true, true, 0, .fieldAddr 73 (.tmp 2) 0⟩,
      ⟨some 10, .some 7 true, true, 35, .load 35 (.tmp 9)⟩,
      ⟨some 11, .some 7 true, true, 3, .call { callee := .builtin .len, args := #[.tmp 10], argTypes := #[35] }⟩,
      ⟨some 12, .some 7 true, true, 4, .binOp .lss 3 (.tmp 8) (.tmp 11) 3⟩,
      ⟨some 13, .none, true, 4, .pick (.tmp 7) (.tmp 12) (.const (.bool false))⟩,
      ⟨some 14, .none, true, 4, .move (.tmp 13)⟩,
      ⟨some 15, .some 14 true, true, 0, .fieldAddr 73 (.tmp 2) 0⟩,
      ⟨some 16, .some 14 true, true, 35, .load 35 (.tmp 15)⟩,
      ⟨some 17, .some 14 true, true, 3, .move (.tmp 1)⟩,
      ⟨some 18, .some 14 true, true, 0, .indexAddr 35 (.tmp 16) (.tmp 17)⟩,
      ⟨some 19, .some 14 true, true, 3, .load 3 (.tmp 18)⟩,
      ⟨some 20, .some 14 true, true, 4, .binOp .neq 3 (.tmp 19) (.const (.int .i64 (-2))) 3⟩,
      ⟨some 21, .none, true, 4, .pick (.tmp 14) (.tmp 20) (.const (.bool false))⟩,
      ⟨some 4, .none, true, 4, .assign (.tmp 21)⟩])
  .ret)))
theorem t_forest_Forest_is : FnT Try.prog f_forest_Forest_is rc_forest_Forest_is [.tmp 4] 2 := ⟨⟨[], Try.f70, _, Try.func70, rfl, by kernel_rfl, by kernel_rfl, by kernel_rfl, rfl, by decide⟩, by kernel_rfl⟩
/-- (reeve/state.State).inside -/
abbrev f_state_State_inside : FuncId := 71
def rc_state_State_inside : RCode :=
  (.seq
    (.region [⟨some 3, .none, true, 0, .box 27 (.tmp 0)⟩,
      ⟨some 6, .none, true, 4, .assign (.const (.bool false))⟩])
  (.keep [1, 2, 3]
  (.seq
    (.seq
      (.region [⟨some 8, .none, true, 27, .load 27 (.tmp 3)⟩,
        ⟨some 9, .none, true, 3, .move (.tmp 1)⟩,
        ⟨some 10, .none, true, 4, .call { callee := .value (.func 93), args := #[.tmp 8, .tmp 9], argTypes := #[27, 3] }⟩,
        ⟨some 11, .none, true, 4, .unOp .not 4 (.tmp 10)⟩,
        ⟨some 12, .none, true, 4, .move (.tmp 11)⟩,
        ⟨some 13, .some 12 false, true, 0, .fieldAddr 27 (.tmp 3) 2⟩,
        ⟨some 14, .some 12 false, true, 25, .load 25 (.tmp 13)⟩,
        ⟨some 15, .some 12 false, true, 3, .move (.tmp 1)⟩,
        ⟨some 16, .some 12 false, true, 0, .indexAddr 25 (.tmp 14) (.tmp 15)⟩,
        ⟨some 17, .some 12 false, true, 0, .fieldAddr 71 (.tmp 16) 0⟩,
        ⟨some 18, .some 12 false, true, 3, .load 3 (.tmp 17)⟩,
        ⟨some 19, .some 12 false, true, 4, .binOp .neq 3 (.tmp 18) (.const (.int .i64 2)) 3⟩,
        ⟨some 20, .none, true, 4, .pick (.tmp 12) (.const (.bool true)) (.tmp 19)⟩])
    (.keep [1, 2, 3, 20]
    (.cond (.tmp 20)
      (.seq
        (.region [⟨some 6, .none, true, 4, .assign (.const (.bool false))⟩])
      .ret)
      .skip)))
  (.seq
    (.region [⟨some 21, .none, true, 127, .makeMap 127 none⟩,
      ⟨some 7, .none, true, 127, .assign (.tmp 21)⟩])
  (.keep [1, 2, 3, 7]
  (.seq
    (.region [⟨some 22, .none, true, 27, .load 27 (.tmp 3)⟩,
      ⟨some 23, .none, true, 3, .move (.tmp 1)⟩,
      ⟨some 24, .none, true, 127, .move (.tmp 7)⟩,
      ⟨some 25, .none, true, 0, .call { callee := .value (.func 99), args := #[.tmp 22, .tmp 23, .tmp 24], argTypes := #[27, 3, 127] }⟩])
  (.keep [2, 3, 7]
  (.seq
    (.region [⟨some 26, .none, true, 127, .move (.tmp 7)⟩,
      ⟨some 27, .none, true, 27, .load 27 (.tmp 3)⟩,
      ⟨some 28, .none, true, 3, .move (.tmp 2)⟩,
      ⟨some 29, .none, true, 3, .call { callee := .value (.func 58), args := #[.tmp 27, .tmp 28], argTypes := #[27, 3] }⟩,
      ⟨some 30, .none, true, 4, .lookup 127 (.tmp 26) (.tmp 29) false⟩,
      ⟨some 6, .none, true, 4, .assign (.tmp 30)⟩])
  .ret))))))))
theorem t_state_State_inside : FnT Try.prog f_state_State_inside rc_state_State_inside [.tmp 6] 3 := ⟨⟨[], Try.f71, _, Try.func71, rfl, by kernel_rfl, by kernel_rfl, by kernel_rfl, rfl, by decide⟩, by kernel_rfl⟩
/-- reeve/find.ways -/
abbrev f_find_ways : FuncId := 85
def rc_find_waysl0 : RCode :=
  (.seq
    (.region [⟨some 17, .none, true, 4, .binOp .lss 3 (.tmp 16) (.tmp 15) 3⟩])
  (.keep [2, 3, 4, 5, 15, 16, 17]
  (.seq
    (.cond (.tmp 17)
      .skip
      (.exit 0))
  (.keep [2, 3, 4, 5, 15, 16]
  (.seq
    (.block 1
      (.seq
        (.region [⟨some 18, .none, true, 3, .move (.tmp 16)⟩,
          ⟨some 8, .none, true, 3, .assign (.tmp 18)⟩])
      (.keep [2, 3, 4, 5, 8, 15, 16]
      (.seq
        (.region [⟨some 19, .none, true, 35, .move (.tmp 2)⟩,
          ⟨some 20, .none, true, 35, .call { callee := .value (.func 103), args := #[.tmp 19], argTypes := #[35] }⟩,
          ⟨some 21, .none, true, 3, .move (.tmp 8)⟩,
          ⟨some 22, .none, true, 35, .buildSlice 35 1 #[(0, .tmp 21)]⟩,
          ⟨some 23, .none, true, 35, .call { callee := .builtin .append, args := #[.tmp 20, .tmp 22], argTypes := #[35, 35] }⟩,
          ⟨some 9, .none, true, 35, .assign (.tmp 23)⟩])
      (.keep [2, 3, 4, 5, 8, 9, 15, 16]
      (.seq
        (.region [⟨some 24, .none, true, 71, .load 71 (.tmp 5)⟩,
          ⟨some 25, .none, true, 3, .move (.tmp 8)⟩,
          ⟨some 26, .none, true, 3, .call { callee := .value (.func 69), args := #[.tmp 24, .tmp 25], argTypes := #[71, 3] }⟩,
          ⟨some 10, .none, true, 3, .assign (.tmp 26)⟩])
      (.keep [2, 3, 4, 5, 9, 10, 15, 16]
      (.seq
        (.region [⟨some 27, .none, true, 120, .move (.tmp 3)⟩,
          ⟨some 28, .none, true, 35, .move (.tmp 9)⟩,
          ⟨some 29, .none, true, 3, .move (.tmp 10)⟩,
          ⟨some 30, .none, true, 0, .call { callee := .value (.tmp 27), args := #[.tmp 28, .tmp 29], argTypes := #[35, 3] }⟩])
      (.keep [2, 3, 4, 5, 9, 10, 15, 16]
      (.seq
        (.region [⟨some 32, .none, true, 27, .load 27 (.tmp 4)⟩,
          ⟨some 33, .none, true, 3, .move (.tmp 10)⟩,
          ⟨some 34, .none, true, 94, .call { callee := .value (.func 68), args := #[.tmp 32, .tmp 33], argTypes := #[27, 3] }⟩,
          ⟨some 31, .none, true, 94, .move (.tmp 34)⟩,
          ⟨some 35, .none, true, 71, .extract (.tmp 31) 0⟩,
          ⟨some 36, .none, true, 4, .extract (.tmp 31) 1⟩,
          ⟨some 11, .none, true, 0, .alloc 71⟩,
          ⟨none, .none, true, 0, .store 71 (.tmp 11) (.tmp 35)⟩,
          ⟨some 12, .none, true, 4, .assign (.tmp 36)⟩])
      (.keep [2, 3, 4, 5, 9, 11, 12, 15, 16]
      (.seq
        (.region [⟨some 37, .none, true, 4, .move (.tmp 12)⟩,
          ⟨some 38, .none, true, 4, .move (.tmp 37)⟩,
          ⟨some 39, .some 38 true, true, 35, .move (.tmp 9)⟩,
          ⟨some 40, .some 38 true, true, 3, .call { callee := .builtin .len, args := #[.tmp 39], argTypes := #[35] }⟩,
          ⟨some 41, .some 38 true, true, 4, .binOp .lss 3 (.tmp 40) (.const (.int .i64 3)) 3⟩,
          ⟨some 42, .none, true, 4, .pick (.tmp 38) (.tmp 41) (.const (.bool false))⟩])
      (.keep [2, 3, 4, 5, 9, 11, 15, 16, 42]
      (.cond (.tmp 42)
        (.region [⟨some 43, .none, true, 27, .load 27 (.tmp 4)⟩,
          ⟨some 44, .none, true, 71, .load 71 (.tmp 11)⟩,
          ⟨some 45, .none, true, 35, .move (.tmp 9)⟩,
          ⟨some 46, .none, true, 120, .move (.tmp 3)⟩,
          ⟨some 47, .none, true, 0, .call { callee := .value (.func 85), args := #[.tmp 43, .tmp 44, .tmp 45, .tmp 46], argTypes := #[27, 71, 35, 120] }⟩])
        .skip))))))))))))))
  (.keep [2, 3, 4, 5, 15, 16]
  (.region [⟨some 48, .none, true, 3, .binOp .add 3 (.tmp 16) (.const (.int .i64 1)) 3⟩,
    ⟨some 16, .none, true, 3, .move (.tmp 48)⟩])))))))
def rc_find_ways : RCode :=
  (.seq
    (.region [⟨some 4, .none, true, 0, .box 27 (.tmp 0)⟩,
      ⟨some 5, .none, true, 0, .box 71 (.tmp 1)⟩])
  (.keep [2, 3, 4, 5]
  (.seq
    (.region [⟨some 13, .none, true, 0, .fieldAddr 71 (.tmp 5) 1⟩,
      ⟨some 14, .none, true, 3, .load 3 (.tmp 13)⟩,
      ⟨some 15, .none, true, 3, .binOp .shl 3 (.const (.int .i64 1)) (.tmp 14) 3⟩,
      ⟨some 16, .none, true, 3, .move (.const (.int .i64 0))⟩])
  (.keep [2, 3, 4, 5, 15, 16]
  (.block 0
    (.loop [2, 3, 4, 5, 15, 16] rc_find_waysl0))))))
theorem t_find_ways : FnT Try.prog f_find_ways rc_find_ways [] 4 := ⟨⟨[], Try.f85, _, Try.func85, rfl, by kernel_rfl, by kernel_rfl, by kernel_rfl, rfl, by decide⟩, by kernel_rfl⟩
/-- reeve/find.Ways$1 -/
abbrev f_find_Ways_1 : FuncId := 86
def rc_find_Ways_1 : RCode :=
  (.seq
    (.region [⟨some 6, .none, true, 3, .move (.tmp 1)⟩,
      ⟨some 7, .none, true, 3, .load 3 (.tmp 2)⟩,
      ⟨some 8, .none, true, 4, .binOp .eql 3 (.tmp 6) (.tmp 7) 3⟩])
  (.keep [0, 3, 8]
  (.cond (.tmp 8)
    (.region [⟨some 9, .none, true, 88, .load 88 (.tmp 3)⟩,
      ⟨some 10, .none, true, 35, .move (.tmp 0)⟩,
      ⟨some 11, .none, true, 60, .build 60 #[(0, .tmp 10)]⟩,
      ⟨some 12, .none, true, 88, .buildSlice 88 1 #[(0, .tmp 11)]⟩,
      ⟨some 13, .none, true, 88, .call { callee := .builtin .append, args := #[.tmp 9, .tmp 12], argTypes := #[88, 88] }⟩,
      ⟨none, .none, true, 0, .store 88 (.tmp 3) (.tmp 13)⟩])
    .skip)))
theorem t_find_Ways_1 : FnT Try.prog f_find_Ways_1 rc_find_Ways_1 [] 4 := ⟨⟨[], Try.f86, _, Try.func86, rfl, by kernel_rfl, by kernel_rfl, by kernel_rfl, rfl, by decide⟩, by kernel_rfl⟩
/-- reeve/path.Good$1 -/
abbrev f_path_Good_1 : FuncId := 87
def rc_path_Good_1 : RCode :=
  (.seq
    (.region [⟨some 2, .none, true, 4, .assign (.const (.bool false))⟩])
  (.keep [0]
  (.seq
    (.region [⟨some 3, .none, true, 3, .move (.tmp 0)⟩,
      ⟨some 4, .none, true, 4, .binOp .lss 3 (.tmp 3) (.const (.int .i64 0)) 3⟩,
      ⟨some 5, .none, true, 4, .move (.tmp 4)⟩,
      ⟨some 6, .some 5 false, true, 3, .move (.tmp 0)⟩,
      ⟨some 7, .some 5 false, true, 4, .binOp .gtr 3 (.tmp 6) (.const (.int .i64 15)) 3⟩,
      ⟨some 8, .none, true, 4, .pick (.tmp 5) (.const (.bool true)) (.tmp 7)⟩,
      ⟨some 2, .none, true, 4, .assign (.tmp 8)⟩])
  .ret)))
theorem t_path_Good_1 : FnT Try.prog f_path_Good_1 rc_path_Good_1 [.tmp 2] 1 := ⟨⟨[], Try.f87, _, Try.func87, rfl, by kernel_rfl, by kernel_rfl, by kernel_rfl, rfl, by decide⟩, by kernel_rfl⟩
/-- slices.ContainsFunc[[]int,int] -/
abbrev f_slices_ContainsFunc_S_int_int : FuncId := 88
def rc_slices_ContainsFunc_S_int_int : RCode :=
  (.seq
    (.region [⟨some 4, .none, true, 4, .assign (.const (.bool false))⟩])
  (.keep [0, 1]
  (.seq
    (.region [⟨some 5, .none, true, 35, .move (.tmp 0)⟩,
      ⟨some 6, .none, true, 111, .move (.tmp 1)⟩,
      ⟨some 7, .none, true, 3, .call { callee := .value (.func 104), args := #[.tmp 5, .tmp 6], argTypes := #[35, 111] }⟩,
      ⟨some 8, .none, true, 4, .binOp .geq 3 (.tmp 7) (.const (.int .i64 0)) 3⟩,
      ⟨some 4, .none, true, 4, .assign (.tmp 8)⟩])
  .ret)))
theorem t_slices_ContainsFunc_S_int_int : FnT Try.prog f_slices_ContainsFunc_S_int_int rc_slices_ContainsFunc_S_int_int [.tmp 4] 2 := ⟨⟨[], Try.f88, _, Try.func88, rfl, by kernel_rfl, by kernel_rfl, by kernel_rfl, rfl, by decide⟩, by kernel_rfl⟩
/-- reeve/find.Reach$1 -/
abbrev f_find_Reach_1 : FuncId := 89
def rc_find_Reach_1 : RCode :=
  (.region [⟨some 5, .none, true, 35, .load 35 (.tmp 2)⟩,
    ⟨some 6, .none, true, 3, .move (.tmp 1)⟩,
    ⟨some 7, .none, true, 35, .buildSlice 35 1 #[(0, .tmp 6)]⟩,
    ⟨some 8, .none, true, 35, .call { callee := .builtin .append, args := #[.tmp 5, .tmp 7], argTypes := #[35, 35] }⟩,
    ⟨none, .none, true, 0, .store 35 (.tmp 2) (.tmp 8)⟩])
theorem t_find_Reach_1 : FnT Try.prog f_find_Reach_1 rc_find_Reach_1 [] 3 := ⟨⟨[], Try.f89, _, Try.func89, rfl, by kernel_rfl, by kernel_rfl, by kernel_rfl, rfl, by decide⟩, by kernel_rfl⟩
/-- slices.Sort[[]int,int] -/
abbrev f_slices_Sort_S_int_int : FuncId := 90
def rc_slices_Sort_S_int_int : RCode :=
  (.seq
    (.region [⟨some 3, .none, true, 35, .move (.tmp 0)⟩,
      ⟨some 4, .none, true, 3, .call { callee := .builtin .len, args := #[.tmp 3], argTypes := #[35] }⟩,
      ⟨some 2, .none, true, 3, .assign (.tmp 4)⟩])
  (.keep [0, 2]
  (.region [⟨some 5, .none, true, 35, .move (.tmp 0)⟩,
    ⟨some 6, .none, true, 3, .move (.tmp 2)⟩,
    ⟨some 7, .none, true, 3, .move (.tmp 2)⟩,
    ⟨some 8, .none, true, 47, .convert 3 47 (.tmp 7)⟩,
    ⟨some 9, .none, true, 3, .call { callee := .value (.func 106), args := #[.tmp 8], argTypes := #[47] }⟩,
    ⟨some 10, .none, true, 0, .call { callee := .value (.func 105), args := #[.tmp 5, .const (.int .i64 0), .tmp 6, .tmp 9], argTypes := #[35, 3, 3, 3] }⟩])))
theorem t_slices_Sort_S_int_int : FnT Try.prog f_slices_Sort_S_int_int rc_slices_Sort_S_int_int [] 1 := ⟨⟨[], Try.f90, _, Try.func90, rfl, by kernel_rfl, by kernel_rfl, by kernel_rfl, rfl, by decide⟩, by kernel_rfl⟩
/-- slices.Compact[[]int,int] -/
abbrev f_slices_Compact_S_int_int : FuncId := 91
def rc_slices_Compact_S_int_intl0 : RCode :=
  (.seq
    (.seq
      (.region [⟨some 29, .none, true, 3, .move (.tmp 5)⟩,
        ⟨some 30, .none, true, 35, .move (.tmp 4)⟩,
        ⟨some 31, .none, true, 3, .call { callee := .builtin .len, args := #[.tmp 30], argTypes := #[35] }⟩,
        ⟨some 32, .none, true, 4, .binOp .lss 3 (.tmp 29) (.tmp 31) 3⟩])
    (.keep [0, 3, 4, 5, 32]
    (.cond (.tmp 32)
      .skip
      (.exit 2))))
  (.seq
    (.block 3
      (.seq
        (.region [⟨some 35, .none, false, 35, .move (.tmp 4)⟩,
          ⟨some 36, .none, false, 3, .move (.tmp 5)⟩,
          ⟨some 37, .none, false, 0, .indexAddr 35 (.tmp 35) (.tmp 36)⟩,
          ⟨some 38, .none, false, 3, .load 3 (.tmp 37)⟩,
          ⟨some 39, .none, false, 35, .move (.tmp 4)⟩,
          ⟨some 40, .none, false, 3, .move (.tmp 5)⟩,
          ⟨some 41, .none, false, 3, .binOp .sub 3 (.tmp 40) (.const (.int .i64 1)) 3⟩,
          ⟨some 42, .none, false, 0, .indexAddr 35 (.tmp 39) (.tmp 41)⟩,
          ⟨some 43, .none, false, 3, .load 3 (.tmp 42)⟩,
          ⟨some 44, .none, true, 4, .binOp .neq 3 (.tmp 38) (.tmp 43) 3⟩])
      (.keep [0, 3, 4, 5, 44]
      (.cond (.tmp 44)
        (.seq
          (.region [⟨some 45, .none, true, 35, .move (.tmp 0)⟩,
            ⟨some 46, .none, true, 3, .move (.tmp 3)⟩,
            ⟨some 47, .none, true, 35, .move (.tmp 4)⟩,
            ⟨some 48, .none, true, 3, .move (.tmp 5)⟩,
            ⟨some 49, .none, true, 0, .indexAddr 35 (.tmp 47) (.tmp 48)⟩,
            ⟨some 50, .none, true, 3, .load 3 (.tmp 49)⟩,
            ⟨some 51, .none, true, 0, .indexAddr 35 (.tmp 45) (.tmp 46)⟩,
            ⟨none, .none, true, 0, .store 3 (.tmp 51) (.tmp 50)⟩])
        (.keep [0, 3, 4, 5]
        (.region [⟨some 52, .none, true, 3, .move (.tmp 3)⟩,
          ⟨some 53, .none, true, 3, .binOp .add 3 (.tmp 52) (.const (.int .i64 1)) 3⟩,
          ⟨some 3, .none, true, 3, .assign (.tmp 53)⟩])))
        .skip))))
  (.keep [0, 3, 4, 5]
  (.region [⟨some 33, .none, true, 3, .move (.tmp 5)⟩,
    ⟨some 34, .none, true, 3, .binOp .add 3 (.tmp 33) (.const (.int .i64 1)) 3⟩,
    ⟨some 5, .none, true, 3, .assign (.tmp 34)⟩]))))
def rc_slices_Compact_S_int_intl1 : RCode :=
  (.seq
    (.seq
      (.region [⟨some 10, .none, true, 3, .move (.tmp 3)⟩,
        ⟨some 11, .none, true, 35, .move (.tmp 0)⟩,
        ⟨some 12, .none, true, 3, .call { callee := .builtin .len, args := #[.tmp 11], argTypes := #[35] }⟩,
        ⟨some 13, .none, true, 4, .binOp .lss 3 (.tmp 10) (.tmp 12) 3⟩])
    (.keep [0, 3, 13]
    (.cond (.tmp 13)
      .skip
      (.exit 0))))
  (.seq
    (.block 1
      (.seq
        (.region [⟨some 16, .none, false, 35, .move (.tmp 0)⟩,
          ⟨some 17, .none, false, 3, .move (.tmp 3)⟩,
          ⟨some 18, .none, false, 0, .indexAddr 35 (.tmp 16) (.tmp 17)⟩,
          ⟨some 19, .none, false, 3, .load 3 (.tmp 18)⟩,
          ⟨some 20, .none, false, 35, .move (.tmp 0)⟩,
          ⟨some 21, .none, false, 3, .move (.tmp 3)⟩,
          ⟨some 22, .none, false, 3, .binOp .sub 3 (.tmp 21) (.const (.int .i64 1)) 3⟩,
          ⟨some 23, .none, false, 0, .indexAddr 35 (.tmp 20) (.tmp 22)⟩,
          ⟨some 24, .none, false, 3, .load 3 (.tmp 23)⟩,
          ⟨some 25, .none, true, 4, .binOp .eql 3 (.tmp 19) (.tmp 24) 3⟩])
      (.keep [0, 3, 25]
      (.cond (.tmp 25)
        (.seq
          (.region [⟨some 26, .none, true, 35, .move (.tmp 0)⟩,
            ⟨some 27, .none, true, 3, .move (.tmp 3)⟩,
            ⟨some 28, .none, true, 35, .slice 35 (.tmp 26) (some (.tmp 27)) none none⟩,
            ⟨some 4, .none, true, 35, .assign (.tmp 28)⟩])
        (.keep [0, 3, 4]
        (.seq
          (.seq
            (.region [⟨some 5, .none, true, 3, .assign (.const (.int .i64 1))⟩])
          (.keep [0, 3, 4, 5]
          (.block 2
            (.loop [0, 3, 4, 5] rc_slices_Compact_S_int_intl0))))
        (.seq
          (.region [⟨some 54, .none, true, 35, .move (.tmp 0)⟩,
            ⟨some 55, .none, true, 3, .move (.tmp 3)⟩,
            ⟨some 56, .none, true, 35, .slice 35 (.tmp 54) (some (.tmp 55)) none none⟩,
            ⟨none, .none, true, 0, .call { callee := .builtin .clear, args := #[.tmp 56], argTypes := #[35] }⟩])
        (.keep [0, 3]
        (.seq
          (.region [⟨some 57, .none, true, 35, .move (.tmp 0)⟩,
            ⟨some 58, .none, true, 3, .move (.tmp 3)⟩,
            ⟨some 59, .none, true, 35, .slice 35 (.tmp 57) none (some (.tmp 58)) none⟩,
            ⟨some 2, .none, true, 35, .assign (.tmp 59)⟩])
        .ret))))))
        .skip))))
  (.keep [0, 3]
  (.region [⟨some 14, .none, true, 3, .move (.tmp 3)⟩,
    ⟨some 15, .none, true, 3, .binOp .add 3 (.tmp 14) (.const (.int .i64 1)) 3⟩,
    ⟨some 3, .none, true, 3, .assign (.tmp 15)⟩]))))
def rc_slices_Compact_S_int_int : RCode :=
  (.seq
    (.region [⟨some 2, .none, true, 35, .assign (.const (.slice none 0 0))⟩])
  (.keep [0]
  (.seq
    (.seq
      (.region [⟨some 6, .none, true, 35, .move (.tmp 0)⟩,
        ⟨some 7, .none, true, 3, .call { callee := .builtin .len, args := #[.tmp 6], argTypes := #[35] }⟩,
        ⟨some 8, .none, true, 4, .binOp .lss 3 (.tmp 7) (.const (.int .i64 2)) 3⟩])
    (.keep [0, 8]
    (.cond (.tmp 8)
      (.seq
        (.region [⟨some 9, .none, true, 35, .move (.tmp 0)⟩,
          ⟨some 2, .none, true, 35, .assign (.tmp 9)⟩])
      .ret)
      .skip)))
  (.seq
    (.seq
      (.region [⟨some 3, .none, true, 3, .assign (.const (.int .i64 1))⟩])
    (.keep [0, 3]
    (.block 0
      (.loop [0, 3] rc_slices_Compact_S_int_intl1))))
  (.seq
    (.region [⟨some 60, .none, true, 35, .move (.tmp 0)⟩,
      ⟨some 2, .none, true, 35, .assign (.tmp 60)⟩])
  .ret)))))
theorem t_slices_Compact_S_int_int : FnT Try.prog f_slices_Compact_S_int_int rc_slices_Compact_S_int_int [.tmp 2] 1 := ⟨⟨[], Try.f91, _, Try.func91, rfl, by kernel_rfl, by kernel_rfl, by kernel_rfl, rfl, by decide⟩, by kernel_rfl⟩
/-- reeve/cap.Good -/
abbrev f_cap_Good : FuncId := 92
def rc_cap_Good : RCode :=
  (.seq
    (.region [⟨some 1, .none, true, 0, .box 32 (.tmp 0)⟩,
      ⟨some 2, .none, true, 4, .assign (.const (.bool false))⟩])
  (.keep [1]
  (.seq
    (.seq
      (.region [⟨some 3, .none, true, 32, .load 32 (.tmp 1)⟩,
        ⟨some 4, .none, true, 4, .call { callee := .value (.func 15), args := #[.tmp 3], argTypes := #[32] }⟩])
    (.keep [1, 4]
    (.cond (.tmp 4)
      (.seq
        (.region [⟨some 2, .none, true, 4, .assign (.const (.bool true))⟩])
      .ret)
      .skip)))
  (.seq
    (.region [⟨some 5, .none, true, 0, .fieldAddr 32 (.tmp 1) 0⟩,
      ⟨some 6, .none, true, 3, .load 3 (.tmp 5)⟩,
      ⟨some 7, .none, true, 4, .call { callee := .value (.func 107), args := #[.tmp 6, .const (.int .i64 1), .const (.int .i64 5)], argTypes := #[3, 3, 3] }⟩,
      ⟨some 8, .none, true, 4, .move (.tmp 7)⟩,
      ⟨some 9, .some 8 true, true, 0, .fieldAddr 32 (.tmp 1) 1⟩,
      ⟨some 10, .some 8 true, true, 3, .load 3 (.tmp 9)⟩,
      ⟨some 11, .some 8 true, true, 4, .call { callee := .value (.func 107), args := #[.tmp 10, .const (.int .i64 0), .const (.int .i64 47)], argTypes := #[3, 3, 3] }⟩,
      ⟨some 12, .none, true, 4, .pick (.tmp 8) (.tmp 11) (.const (.bool false))⟩,
      ⟨some 13, .none, true, 4, .move (.tmp 12)⟩,
      ⟨some 14, .some 13 true, true, 0, .fieldAddr 32 (.tmp 1) 2⟩,
      ⟨some 15, .some 13 true, true, 3, .load 3 (.tmp 14)⟩,
      ⟨some 16, .some 13 true, true, 4, .call { callee := .value (.func 108), args := #[.tmp 15], argTypes := #[3] }⟩,
      ⟨some 17, .none, true, 4, .pick (.tmp 13) (.tmp 16) (.const (.bool false))⟩,
      ⟨some 18, .none, true, 4, .move (.tmp 17)⟩,
      ⟨some 19, .some 18 true, true, 0, .fieldAddr 32 (.tmp 1) 3⟩,
      ⟨some 20, .some 18 true, true, 3, .load 3 (.tmp 19)⟩,
      ⟨some 21, .some 18 true, true, 4, .call { callee := .value (.func 109), args := #[.tmp 20], argTypes := #[3] }⟩,
      ⟨some 22, .none, true, 4, .pick (.tmp 18) (.tmp 21) (.const (.bool false))⟩,
      ⟨some 23, .none, true, 4, .move (.tmp 22)⟩,
      ⟨some 24, .some 23 true, true, 0, .fieldAddr 32 (.tmp 1) 3⟩,
      ⟨some 25, .some 23 true, true, 3, .load 3 (.tmp 24)⟩,
      ⟨some 26, .some 23 true, true, 4, .binOp .eql 3 (.tmp 25) (.const (.int .i64 0)) 3⟩,
      ⟨some 27, .some 23 true, true, 4, .move (.tmp 26)⟩,
      ⟨some 28, .some 27 false, true, 0, .fieldAddr 32 (.tmp 1) 0⟩,
      ⟨some 29, .some 27 false, true, 3, .load 3 (.tmp 28)⟩,
      ⟨some 30, .some 27 false, true, 4, .call { callee := .value (.func 110), args := #[.tmp 29], argTypes := #[3] }⟩,
      ⟨some 31, .some 23 true, true, 4, .pick (.tmp 27) (.const (.bool true)) (.tmp 30)⟩,
      ⟨some 32, .none, true, 4, .pick (.tmp 23) (.tmp 31) (.const (.bool false))⟩,
      ⟨some 2, .none, true, 4, .assign (.tmp 32)⟩])
  .ret))))
theorem t_cap_Good : FnT Try.prog f_cap_Good rc_cap_Good [.tmp 2] 1 := ⟨⟨[], Try.f92, _, Try.func92, rfl, by kernel_rfl, by kernel_rfl, by kernel_rfl, rfl, by decide⟩, by kernel_rfl⟩
/-- (reeve/state.State).there -/
abbrev f_state_State_there : FuncId := 93
def rc_state_State_there : RCode :=
  (.seq
    (.region [⟨some 2, .none, true, 0, .box 27 (.tmp 0)⟩,
      ⟨some 4, .none, true, 4, .assign (.const (.bool false))⟩])
  (.keep [1, 2]
  (.seq
    (.region [⟨some 5, .none, true, 3, .move (.tmp 1)⟩,
      ⟨some 6, .none, true, 4, .binOp .geq 3 (.tmp 5) (.const (.int .i64 0)) 3⟩,
      ⟨some 7, .none, true, 4, .move (.tmp 6)⟩,
      ⟨some 8, .some 7 true, true, 3, .move (.tmp 1)⟩,
      ⟨some 9, .some 7 true, true, 0, .fieldAddr 27 (.tmp 2) 2⟩,
      ⟨some 10, .some 7 true, true, 25, .load 25 (.tmp 9)⟩,
      ⟨some 11, .some 7 true, true, 3, .call { callee := .builtin .len, args := #[.tmp 10], argTypes := #[25] }⟩,
      ⟨some 12, .some 7 true, true, 4, .binOp .lss 3 (.tmp 8) (.tmp 11) 3⟩,
      ⟨some 13, .none, true, 4, .pick (.tmp 7) (.tmp 12) (.const (.bool false))⟩,
      ⟨some 14, .none, true, 4, .move (.tmp 13)⟩,
      ⟨some 15, .some 14 true, true, 0, .fieldAddr 27 (.tmp 2) 2⟩,
      ⟨some 16, .some 14 true, true, 25, .load 25 (.tmp 15)⟩,
      ⟨some 17, .some 14 true, true, 3, .move (.tmp 1)⟩,
      ⟨some 18, .some 14 true, true, 0, .indexAddr 25 (.tmp 16) (.tmp 17)⟩,
      ⟨some 19, .some 14 true, true, 0, .fieldAddr 71 (.tmp 18) 0⟩,
      ⟨some 20, .some 14 true, true, 3, .load 3 (.tmp 19)⟩,
      ⟨some 21, .some 14 true, true, 4, .binOp .neq 3 (.tmp 20) (.const (.int .i64 0)) 3⟩,
      ⟨some 22, .none, true, 4, .pick (.tmp 14) (.tmp 21) (.const (.bool false))⟩,
      ⟨some 4, .none, true, 4, .assign (.tmp 22)⟩])
  .ret)))
theorem t_state_State_there : FnT Try.prog f_state_State_there rc_state_State_there [.tmp 4] 2 := ⟨⟨[], Try.f93, _, Try.func93, rfl, by kernel_rfl, by kernel_rfl, by kernel_rfl, rfl, by decide⟩, by kernel_rfl⟩
/-- reeve/thing.Good -/
abbrev f_thing_Good : FuncId := 94
def rc_thing_Good : RCode :=
  (.seq
    (.region [⟨some 1, .none, true, 0, .box 71 (.tmp 0)⟩,
      ⟨some 2, .none, true, 4, .assign (.const (.bool false))⟩])
  (.keep [1]
  (.seq
    (.seq
      (.region [⟨some 3, .none, false, 71, .load 71 (.tmp 1)⟩,
        ⟨some 4, .none, false, 71, .call { callee := .value (.func 111), args := #[.tmp 3], argTypes := #[71] }⟩,
        ⟨some 5, .none, false, 71, .load 71 (.tmp 1)⟩,
        ⟨some 6, .none, true, 4, .binOp .neq 71 (.tmp 4) (.tmp 5) 71⟩])
    (.keep [1, 6]
    (.cond (.tmp 6)
      (.seq
        (.region [⟨some 2, .none, true, 4, .assign (.const (.bool false))⟩])
      .ret)
      .skip)))
  (.seq
    (.seq
      (.region [⟨some 7, .none, true, 0, .fieldAddr 71 (.tmp 1) 0⟩,
        ⟨some 8, .none, true, 3, .load 3 (.tmp 7)⟩])
    (.keep [1, 8]
    (.block 0
      (.seq
        (.region [⟨some 10, .none, true, 4, .binOp .eql 3 (.tmp 8) (.const (.int .i64 1)) 3⟩,
          ⟨some 9, .none, true, 4, .assign (.tmp 10)⟩])
      (.keep [1, 8, 9]
      (.cond (.tmp 9)
        (.seq
          (.region [⟨some 11, .none, true, 0, .fieldAddr 71 (.tmp 1) 3⟩,
            ⟨some 12, .none, true, 3, .load 3 (.tmp 11)⟩,
            ⟨some 13, .none, true, 4, .call { callee := .value (.func 112), args := #[.tmp 12, .const (.int .i64 1), .const (.int .i64 4096)], argTypes := #[3, 3, 3] }⟩,
            ⟨some 14, .none, true, 4, .move (.tmp 13)⟩,
            ⟨some 15, .some 14 true, true, 0, .fieldAddr 71 (.tmp 1) 4⟩,
            ⟨some 16, .some 14 true, true, 3, .load 3 (.tmp 15)⟩,
            ⟨some 17, .some 14 true, true, 0, .fieldAddr 71 (.tmp 1) 3⟩,
            ⟨some 18, .some 14 true, true, 3, .load 3 (.tmp 17)⟩,
            ⟨some 19, .some 14 true, true, 4, .call { callee := .value (.func 112), args := #[.tmp 16, .const (.int .i64 0), .tmp 18], argTypes := #[3, 3, 3] }⟩,
            ⟨some 20, .none, true, 4, .pick (.tmp 14) (.tmp 19) (.const (.bool false))⟩,
            ⟨some 2, .none, true, 4, .assign (.tmp 20)⟩])
        .ret)
        (.seq
          (.region [⟨some 22, .none, true, 4, .binOp .eql 3 (.tmp 8) (.const (.int .i64 2)) 3⟩,
            ⟨some 21, .none, true, 4, .assign (.tmp 22)⟩])
        (.keep [1, 8, 21]
        (.cond (.tmp 21)
          (.seq
            (.region [⟨some 23, .none, true, 0, .fieldAddr 71 (.tmp 1) 1⟩,
              ⟨some 24, .none, true, 3, .load 3 (.tmp 23)⟩,
              ⟨some 25, .none, true, 4, .call { callee := .value (.func 112), args := #[.tmp 24, .const (.int .i64 1), .const (.int .i64 4)], argTypes := #[3, 3, 3] }⟩,
              ⟨some 26, .none, true, 4, .move (.tmp 25)⟩,
              ⟨some 27, .some 26 true, false, 0, .fieldAddr 71 (.tmp 1) 2⟩,
              ⟨some 28, .some 26 true, false, 3, .load 3 (.tmp 27)⟩,
              ⟨some 29, .some 26 true, false, 0, .fieldAddr 71 (.tmp 1) 1⟩,
              ⟨some 30, .some 26 true, false, 3, .load 3 (.tmp 29)⟩,
              ⟨some 31, .some 26 true, false, 3, .binOp .shl 3 (.const (.int .i64 1)) (.tmp 30) 3⟩,
              ⟨some 32, .some 26 true, false, 3, .binOp .sub 3 (.const (.int .i64 96)) (.tmp 31) 3⟩,
              ⟨some 33, .some 26 true, true, 4, .call { callee := .value (.func 112), args := #[.tmp 28, .const (.int .i64 0), .tmp 32], argTypes := #[3, 3, 3] }⟩,
              ⟨some 34, .none, true, 4, .pick (.tmp 26) (.tmp 33) (.const (.bool false))⟩,
              ⟨some 2, .none, true, 4, .assign (.tmp 34)⟩])
          .ret)
          (.seq
            (.region [⟨some 36, .none, true, 4, .binOp .eql 3 (.tmp 8) (.const (.int .i64 3)) 3⟩,
              ⟨some 35, .none, true, 4, .assign (.tmp 36)⟩])
          (.keep [1, 35]
          (.cond (.tmp 35)
            (.seq
              (.region [⟨some 37, .none, true, 0, .fieldAddr 71 (.tmp 1) 6⟩,
                ⟨some 38, .none, true, 3, .load 3 (.tmp 37)⟩,
                ⟨some 39, .none, true, 4, .call { callee := .value (.func 112), args := #[.tmp 38, .const (.int .i64 0), .const (.int .i64 65535)], argTypes := #[3, 3, 3] }⟩,
                ⟨some 40, .none, true, 4, .move (.tmp 39)⟩,
                ⟨some 41, .some 40 true, true, 0, .fieldAddr 71 (.tmp 1) 5⟩,
                ⟨some 42, .some 40 true, true, 3, .load 3 (.tmp 41)⟩,
                ⟨some 43, .some 40 true, true, 4, .call { callee := .value (.func 112), args := #[.tmp 42, .const (.int .i64 0), .const (.int .i64 96)], argTypes := #[3, 3, 3] }⟩,
                ⟨some 44, .none, true, 4, .pick (.tmp 40) (.tmp 43) (.const (.bool false))⟩,
                ⟨some 2, .none, true, 4, .assign (.tmp 44)⟩])
            .ret)
            .skip))))))))))))
  (.seq
    (.region [⟨some 2, .none, true, 4, .assign (.const (.bool true))⟩])
  .ret)))))
theorem t_thing_Good : FnT Try.prog f_thing_Good rc_thing_Good [.tmp 2] 1 := ⟨⟨[], Try.f94, _, Try.func94, rfl, by kernel_rfl, by kernel_rfl, by kernel_rfl, rfl, by decide⟩, by kernel_rfl⟩
/-- reeve/cap.Less -/
abbrev f_cap_Less : FuncId := 95
def rc_cap_Less : RCode :=
  (.seq
    (.region [⟨some 2, .none, true, 0, .box 32 (.tmp 0)⟩,
      ⟨some 3, .none, true, 0, .box 32 (.tmp 1)⟩,
      ⟨some 4, .none, true, 4, .assign (.const (.bool false))⟩])
  (.keep [2, 3]
  (.seq
    (.seq
      (.region [⟨some 5, .none, true, 32, .load 32 (.tmp 2)⟩,
        ⟨some 6, .none, true, 4, .call { callee := .value (.func 15), args := #[.tmp 5], argTypes := #[32] }⟩])
    (.keep [2, 3, 6]
    (.cond (.tmp 6)
      (.seq
        (.region [⟨some 4, .none, true, 4, .assign (.const (.bool true))⟩])
      .ret)
      .skip)))
  (.seq
    (.region [⟨some 7, .none, true, 0, .fieldAddr 32 (.tmp 2) 0⟩,
      ⟨some 8, .none, true, 3, .load 3 (.tmp 7)⟩,
      ⟨some 9, .none, true, 0, .fieldAddr 32 (.tmp 3) 0⟩,
      ⟨some 10, .none, true, 3, .load 3 (.tmp 9)⟩,
      ⟨some 11, .none, true, 4, .binOp .eql 3 (.tmp 8) (.tmp 10) 3⟩,
      ⟨some 12, .none, true, 4, .move (.tmp 11)⟩,
      ⟨some 13, .some 12 true, true, 0, .fieldAddr 32 (.tmp 2) 1⟩,
      ⟨some 14, .some 12 true, true, 3, .load 3 (.tmp 13)⟩,
      ⟨some 15, .some 12 true, true, 0, .fieldAddr 32 (.tmp 3) 1⟩,
      ⟨some 16, .some 12 true, true, 3, .load 3 (.tmp 15)⟩,
      ⟨some 17, .some 12 true, true, 4, .binOp .eql 3 (.tmp 14) (.tmp 16) 3⟩,
      ⟨some 18, .none, true, 4, .pick (.tmp 12) (.tmp 17) (.const (.bool false))⟩,
      ⟨some 19, .none, true, 4, .move (.tmp 18)⟩,
      ⟨some 20, .some 19 true, true, 0, .fieldAddr 32 (.tmp 2) 2⟩,
      ⟨some 21, .some 19 true, true, 3, .load 3 (.tmp 20)⟩,
      ⟨some 22, .some 19 true, true, 0, .fieldAddr 32 (.tmp 3) 2⟩,
      ⟨some 23, .some 19 true, true, 3, .load 3 (.tmp 22)⟩,
      ⟨some 24, .some 19 true, true, 4, .call { callee := .value (.func 98), args := #[.tmp 21, .tmp 23], argTypes := #[3, 3] }⟩,
      ⟨some 25, .none, true, 4, .pick (.tmp 19) (.tmp 24) (.const (.bool false))⟩,
      ⟨some 26, .none, true, 4, .move (.tmp 25)⟩,
      ⟨some 27, .some 26 true, true, 0, .fieldAddr 32 (.tmp 3) 3⟩,
      ⟨some 28, .some 26 true, true, 3, .load 3 (.tmp 27)⟩,
      ⟨some 29, .some 26 true, true, 4, .binOp .eql 3 (.tmp 28) (.const (.int .i64 0)) 3⟩,
      ⟨some 30, .some 26 true, true, 4, .move (.tmp 29)⟩,
      ⟨some 31, .some 30 false, true, 0, .fieldAddr 32 (.tmp 3) 3⟩,
      ⟨some 32, .some 30 false, true, 3, .load 3 (.tmp 31)⟩,
      ⟨some 33, .some 30 false, true, 0, .fieldAddr 32 (.tmp 2) 3⟩,
      ⟨some 34, .some 30 false, true, 3, .load 3 (.tmp 33)⟩,
      ⟨some 35, .some 30 false, true, 4, .binOp .eql 3 (.tmp 32) (.tmp 34) 3⟩,
      ⟨some 36, .some 26 true, true, 4, .pick (.tmp 30) (.const (.bool true)) (.tmp 35)⟩,
      ⟨some 37, .none, true, 4, .pick (.tmp 26) (.tmp 36) (.const (.bool false))⟩,
      ⟨some 4, .none, true, 4, .assign (.tmp 37)⟩])
  .ret))))
theorem t_cap_Less : FnT Try.prog f_cap_Less rc_cap_Less [.tmp 4] 2 := ⟨⟨[], Try.f95, _, Try.func95, rfl, by kernel_rfl, by kernel_rfl, by kernel_rfl, rfl, by decide⟩, by kernel_rfl⟩
/-- (reeve/state.State).owner$1 -/
abbrev f_state_State_owner_1 : FuncId := 96
def rc_state_State_owner_1 : RCode :=
  (.seq
    (.region [⟨some 2, .none, true, 0, .box 71 (.tmp 0)⟩,
      ⟨some 3, .none, true, 4, .assign (.const (.bool false))⟩])
  (.keep [1, 2]
  (.seq
    (.region [⟨some 4, .none, true, 71, .load 71 (.tmp 2)⟩,
      ⟨some 5, .none, true, 3, .load 3 (.tmp 1)⟩,
      ⟨some 6, .none, true, 4, .call { callee := .value (.func 97), args := #[.tmp 4, .tmp 5], argTypes := #[71, 3] }⟩,
      ⟨some 3, .none, true, 4, .assign (.tmp 6)⟩])
  .ret)))
theorem t_state_State_owner_1 : FnT Try.prog f_state_State_owner_1 rc_state_State_owner_1 [.tmp 3] 2 := ⟨⟨[], Try.f96, _, Try.func96, rfl, by kernel_rfl, by kernel_rfl, by kernel_rfl, rfl, by decide⟩, by kernel_rfl⟩
/-- reeve/state.has -/
abbrev f_state_has : FuncId := 97
def rc_state_has : RCode :=
  (.seq
    (.region [⟨some 2, .none, true, 0, .box 71 (.tmp 0)⟩,
      ⟨some 4, .none, true, 4, .assign (.const (.bool false))⟩])
  (.keep [1, 2]
  (.seq
    (.region [⟨some 5, .none, true, 0, .fieldAddr 71 (.tmp 2) 0⟩,
      ⟨some 6, .none, true, 3, .load 3 (.tmp 5)⟩,
      ⟨some 7, .none, true, 4, .binOp .eql 3 (.tmp 6) (.const (.int .i64 2)) 3⟩,
      ⟨some 8, .none, true, 4, .move (.tmp 7)⟩,
      ⟨some 9, .some 8 true, false, 3, .move (.tmp 1)⟩,
      ⟨some 10, .some 8 true, true, 0, .fieldAddr 71 (.tmp 2) 2⟩,
      ⟨some 11, .some 8 true, true, 3, .load 3 (.tmp 10)⟩,
      ⟨some 12, .some 8 true, true, 4, .binOp .geq 3 (.tmp 9) (.tmp 11) 3⟩,
      ⟨some 13, .none, true, 4, .pick (.tmp 8) (.tmp 12) (.const (.bool false))⟩,
      ⟨some 14, .none, true, 4, .move (.tmp 13)⟩,
      ⟨some 15, .some 14 true, false, 3, .move (.tmp 1)⟩,
      ⟨some 16, .some 14 true, false, 0, .fieldAddr 71 (.tmp 2) 2⟩,
      ⟨some 17, .some 14 true, false, 3, .load 3 (.tmp 16)⟩,
      ⟨some 18, .some 14 true, false, 0, .fieldAddr 71 (.tmp 2) 1⟩,
      ⟨some 19, .some 14 true, false, 3, .load 3 (.tmp 18)⟩,
      ⟨some 20, .some 14 true, false, 3, .binOp .shl 3 (.const (.int .i64 1)) (.tmp 19) 3⟩,
      ⟨some 21, .some 14 true, true, 3, .binOp .add 3 (.tmp 17) (.tmp 20) 3⟩,
      ⟨some 22, .some 14 true, true, 4, .binOp .lss 3 (.tmp 15) (.tmp 21) 3⟩,
      ⟨some 23, .none, true, 4, .pick (.tmp 14) (.tmp 22) (.const (.bool false))⟩,
      ⟨some 4, .none, true, 4, .assign (.tmp 23)⟩])
  .ret)))
theorem t_state_has : FnT Try.prog f_state_has rc_state_has [.tmp 4] 2 := ⟨⟨[], Try.f97, _, Try.func97, rfl, by kernel_rfl, by kernel_rfl, by kernel_rfl, rfl, by decide⟩, by kernel_rfl⟩
/-- reeve/right.Within -/
abbrev f_right_Within : FuncId := 98
def rc_right_Within : RCode :=
  (.seq
    (.region [⟨some 4, .none, true, 4, .assign (.const (.bool false))⟩])
  (.keep [0, 1]
  (.seq
    (.region [⟨some 5, .none, true, 3, .move (.tmp 0)⟩,
      ⟨some 6, .none, true, 3, .move (.tmp 1)⟩,
      ⟨some 7, .none, true, 3, .call { callee := .value (.func 113), args := #[.tmp 5, .tmp 6], argTypes := #[3, 3] }⟩,
      ⟨some 8, .none, true, 4, .binOp .eql 3 (.tmp 7) (.const (.int .i64 0)) 3⟩,
      ⟨some 4, .none, true, 4, .assign (.tmp 8)⟩])
  .ret)))
theorem t_right_Within : FnT Try.prog f_right_Within rc_right_Within [.tmp 4] 2 := ⟨⟨[], Try.f98, _, Try.func98, rfl, by kernel_rfl, by kernel_rfl, by kernel_rfl, rfl, by decide⟩, by kernel_rfl⟩
/-- reeve/state.within -/
abbrev f_state_within : FuncId := 99
def rc_state_withinl0 : RCode :=
  (.seq
    (.region [⟨some 17, .none, true, 0, .binOp .lss 3 (.tmp 16) (.tmp 15) 3⟩])
  (.keep [1, 2, 3, 14, 15, 16, 17]
  (.seq
    (.cond (.tmp 17)
      .skip
      (.exit 0))
  (.keep [1, 2, 3, 14, 15, 16]
  (.seq
    (.block 1
      (.seq
        (.region [⟨some 18, .none, true, 3, .move (.tmp 16)⟩,
          ⟨some 19, .none, true, 0, .indexAddr 24 (.tmp 14) (.tmp 16)⟩,
          ⟨some 20, .none, true, 34, .load 34 (.tmp 19)⟩,
          ⟨some 7, .none, true, 0, .alloc 34⟩,
          ⟨some 6, .none, true, 3, .assign (.tmp 18)⟩,
          ⟨none, .none, true, 0, .store 34 (.tmp 7) (.tmp 20)⟩])
      (.keep [1, 2, 3, 6, 7, 14, 15, 16]
      (.seq
        (.region [⟨some 21, .none, true, 0, .fieldAddr 34 (.tmp 7) 0⟩,
          ⟨some 22, .none, true, 0, .fieldAddr 32 (.tmp 21) 0⟩,
          ⟨some 23, .none, true, 3, .load 3 (.tmp 22)⟩,
          ⟨some 24, .none, true, 4, .binOp .eql 3 (.tmp 23) (.const (.int .i64 2)) 3⟩,
          ⟨some 25, .none, true, 4, .move (.tmp 24)⟩,
          ⟨some 26, .some 25 true, true, 0, .fieldAddr 27 (.tmp 3) 2⟩,
          ⟨some 27, .some 25 true, true, 25, .load 25 (.tmp 26)⟩,
          ⟨some 28, .some 25 true, true, 3, .move (.tmp 1)⟩,
          ⟨some 29, .some 25 true, true, 0, .indexAddr 25 (.tmp 27) (.tmp 28)⟩,
          ⟨some 30, .some 25 true, true, 71, .load 71 (.tmp 29)⟩,
          ⟨some 31, .some 25 true, true, 3, .move (.tmp 6)⟩,
          ⟨some 32, .some 25 true, true, 4, .call { callee := .value (.func 97), args := #[.tmp 30, .tmp 31], argTypes := #[71, 3] }⟩,
          ⟨some 33, .none, true, 4, .pick (.tmp 25) (.tmp 32) (.const (.bool false))⟩,
          ⟨some 34, .none, true, 4, .move (.tmp 33)⟩,
          ⟨some 35, .some 34 true, true, 27, .load 27 (.tmp 3)⟩,
          ⟨some 36, .some 34 true, true, 0, .fieldAddr 34 (.tmp 7) 0⟩,
          ⟨some 37, .some 34 true, true, 0, .fieldAddr 32 (.tmp 36) 1⟩,
          ⟨some 38, .some 34 true, true, 3, .load 3 (.tmp 37)⟩,
          ⟨some 39, .some 34 true, true, 4, .call { callee := .value (.func 93), args := #[.tmp 35, .tmp 38], argTypes := #[27, 3] }⟩,
          ⟨some 40, .none, true, 4, .pick (.tmp 34) (.tmp 39) (.const (.bool false))⟩])
      (.keep [1, 2, 3, 7, 14, 15, 16, 40]
      (.cond (.tmp 40)
        (.region [⟨some 41, .none, true, 27, .load 27 (.tmp 3)⟩,
          ⟨some 42, .none, true, 0, .fieldAddr 34 (.tmp 7) 0⟩,
          ⟨some 43, .none, true, 0, .fieldAddr 32 (.tmp 42) 1⟩,
          ⟨some 44, .none, true, 3, .load 3 (.tmp 43)⟩,
          ⟨some 45, .none, true, 127, .move (.tmp 2)⟩,
          ⟨some 46, .none, true, 0, .call { callee := .value (.func 99), args := #[.tmp 41, .tmp 44, .tmp 45], argTypes := #[27, 3, 127] }⟩])
        .skip))))))
  (.keep [1, 2, 3, 14, 15, 16]
  (.region [⟨some 47, .none, true, 3, .binOp .add 3 (.tmp 16) (.const (.int .i64 1)) 3⟩,
    ⟨some 16, .none, true, 3, .move (.tmp 47)⟩])))))))
def rc_state_within : RCode :=
  (.seq
    (.region [⟨some 3, .none, true, 0, .box 27 (.tmp 0)⟩])
  (.keep [1, 2, 3]
  (.seq
    (.seq
      (.region [⟨some 8, .none, true, 127, .move (.tmp 2)⟩,
        ⟨some 9, .none, true, 3, .move (.tmp 1)⟩,
        ⟨some 10, .none, true, 4, .lookup 127 (.tmp 8) (.tmp 9) false⟩])
    (.keep [1, 2, 3, 10]
    (.cond (.tmp 10)
      .ret
      .skip)))
  (.seq
    (.region [⟨some 11, .none, true, 127, .move (.tmp 2)⟩,
      ⟨some 12, .none, true, 3, .move (.tmp 1)⟩,
      ⟨none, .none, true, 0, .mapUpdate 127 (.tmp 11) (.tmp 12) (.const (.bool true))⟩])
  (.keep [1, 2, 3]
  (.seq
    (.region [⟨some 13, .none, true, 0, .fieldAddr 27 (.tmp 3) 1⟩,
      ⟨some 14, .none, true, 24, .load 24 (.tmp 13)⟩,
      ⟨some 15, .none, true, 3, .call { callee := .builtin .len, args := #[.tmp 14], argTypes := #[24] }⟩,
      ⟨some 16, .none, true, 3, .move (.const (.int .i64 0))⟩])
  (.keep [1, 2, 3, 14, 15, 16]
  (.block 0
    (.loop [1, 2, 3, 14, 15, 16] rc_state_withinl0)))))))))
theorem t_state_within : FnT Try.prog f_state_within rc_state_within [] 3 := ⟨⟨[], Try.f99, _, Try.func99, rfl, by kernel_rfl, by kernel_rfl, by kernel_rfl, rfl, by decide⟩, by kernel_rfl⟩
/-- slices.Clone[[]int,int] -/
abbrev f_slices_Clone_S_int_int : FuncId := 103
def rc_slices_Clone_S_int_int : RCode :=
  (.seq
    (.region [⟨some 2, .none, true, 35, .assign (.const (.slice none 0 0))⟩])
  (.keep [0]
  (.seq
    (.seq
      (.region [⟨some 3, .none, true, 35, .move (.tmp 0)⟩,
        ⟨some 4, .none, true, 4, .binOp .eql 35 (.tmp 3) (.const (.slice none 0 0)) 35⟩])
    (.keep [0, 4]
    (.cond (.tmp 4)
      (.seq
        (.region [⟨some 2, .none, true, 35, .assign (.const (.slice none 0 0))⟩])
      .ret)
      .skip)))
  (.seq
    (.region [⟨some 5, .none, true, 35, .buildSlice 35 0 #[]⟩,
      ⟨some 6, .none, true, 35, .move (.tmp 0)⟩,
      ⟨some 7, .none, true, 35, .call { callee := .builtin .append, args := #[.tmp 5, .tmp 6], argTypes := #[35, 35] }⟩,
      ⟨some 2, .none, true, 35, .assign (.tmp 7)⟩])
  .ret))))
theorem t_slices_Clone_S_int_int : FnT Try.prog f_slices_Clone_S_int_int rc_slices_Clone_S_int_int [.tmp 2] 1 := ⟨⟨[], Try.f103, _, Try.func103, rfl, by kernel_rfl, by kernel_rfl, by kernel_rfl, rfl, by decide⟩, by kernel_rfl⟩
/-- slices.IndexFunc[[]int,int] -/
abbrev f_slices_IndexFunc_S_int_int : FuncId := 104
def rc_slices_IndexFunc_S_int_intl0 : RCode :=
  (.seq
    (.region [⟨some 9, .none, true, 0, .binOp .lss 3 (.tmp 8) (.tmp 7) 3⟩])
  (.keep [0, 1, 7, 8, 9]
  (.seq
    (.cond (.tmp 9)
      .skip
      (.exit 0))
  (.keep [0, 1, 7, 8]
  (.seq
    (.block 1
      (.seq
        (.region [⟨some 10, .none, true, 3, .move (.tmp 8)⟩,
          ⟨some 5, .none, true, 3, .assign (.tmp 10)⟩])
      (.keep [0, 1, 5, 7, 8]
      (.seq
        (.region [⟨some 11, .none, true, 111, .move (.tmp 1)⟩,
          ⟨some 12, .none, true, 35, .move (.tmp 0)⟩,
          ⟨some 13, .none, true, 3, .move (.tmp 5)⟩,
          ⟨some 14, .none, true, 0, .indexAddr 35 (.tmp 12) (.tmp 13)⟩,
          ⟨some 15, .none, true, 3, .load 3 (.tmp 14)⟩,
          ⟨some 16, .none, true, 4, .call { callee := .value (.tmp 11), args := #[.tmp 15], argTypes := #[3] }⟩])
      (.keep [0, 1, 5, 7, 8, 16]
      (.cond (.tmp 16)
        (.seq
          (.region [⟨some 17, .none, true, 3, .move (.tmp 5)⟩,
            ⟨some 4, .none, true, 3, .assign (.tmp 17)⟩])
        .ret)
        .skip))))))
  (.keep [0, 1, 7, 8]
  (.region [⟨some 18, .none, true, 3, .binOp .add 3 (.tmp 8) (.const (.int .i64 1)) 3⟩,
    ⟨some 8, .none, true, 3, .move (.tmp 18)⟩])))))))
def rc_slices_IndexFunc_S_int_int : RCode :=
  (.seq
    (.region [⟨some 4, .none, true, 3, .assign (.const (.int .i64 0))⟩])
  (.keep [0, 1]
  (.seq
    (.seq
      (.region [⟨some 6, .none, true, 35, .move (.tmp 0)⟩,
        ⟨some 7, .none, true, 3, .call { callee := .builtin .len, args := #[.tmp 6], argTypes := #[35] }⟩,
        ⟨some 8, .none, true, 3, .move (.const (.int .i64 0))⟩])
    (.keep [0, 1, 7, 8]
    (.block 0
      (.loop [0, 1, 7, 8] rc_slices_IndexFunc_S_int_intl0))))
  (.seq
    (.region [⟨some 4, .none, true, 3, .assign (.const (.int .i64 (-1)))⟩])
  .ret))))
theorem t_slices_IndexFunc_S_int_int : FnT Try.prog f_slices_IndexFunc_S_int_int rc_slices_IndexFunc_S_int_int [.tmp 4] 2 := ⟨⟨[], Try.f104, _, Try.func104, rfl, by kernel_rfl, by kernel_rfl, by kernel_rfl, rfl, by decide⟩, by kernel_rfl⟩
/-- reeve/cap.in -/
abbrev f_cap_in : FuncId := 107
def rc_cap_in : RCode :=
  (.seq
    (.region [⟨some 6, .none, true, 4, .assign (.const (.bool false))⟩])
  (.keep [0, 1, 2]
  (.seq
    (.region [⟨some 7, .none, true, 3, .move (.tmp 0)⟩,
      ⟨some 8, .none, true, 3, .move (.tmp 1)⟩,
      ⟨some 9, .none, true, 4, .binOp .geq 3 (.tmp 7) (.tmp 8) 3⟩,
      ⟨some 10, .none, true, 4, .move (.tmp 9)⟩,
      ⟨some 11, .some 10 true, true, 3, .move (.tmp 0)⟩,
      ⟨some 12, .some 10 true, true, 3, .move (.tmp 2)⟩,
      ⟨some 13, .some 10 true, true, 4, .binOp .leq 3 (.tmp 11) (.tmp 12) 3⟩,
      ⟨some 14, .none, true, 4, .pick (.tmp 10) (.tmp 13) (.const (.bool false))⟩,
      ⟨some 6, .none, true, 4, .assign (.tmp 14)⟩])
  .ret)))
theorem t_cap_in : FnT Try.prog f_cap_in rc_cap_in [.tmp 6] 3 := ⟨⟨[], Try.f107, _, Try.func107, rfl, by kernel_rfl, by kernel_rfl, by kernel_rfl, rfl, by decide⟩, by kernel_rfl⟩
/-- reeve/right.Good -/
abbrev f_right_Good : FuncId := 108
def rc_right_Good : RCode :=
  (.seq
    (.region [⟨some 2, .none, true, 4, .assign (.const (.bool false))⟩])
  (.keep [0]
  (.seq
    (.region [⟨some 3, .none, true, 3, .move (.tmp 0)⟩,
      ⟨some 4, .none, true, 4, .binOp .geq 3 (.tmp 3) (.const (.int .i64 0)) 3⟩,
      ⟨some 5, .none, true, 4, .move (.tmp 4)⟩,
      ⟨some 6, .some 5 true, true, 3, .move (.tmp 0)⟩,
      ⟨some 7, .some 5 true, true, 4, .binOp .leq 3 (.tmp 6) (.const (.int .i64 7)) 3⟩,
      ⟨some 8, .none, true, 4, .pick (.tmp 5) (.tmp 7) (.const (.bool false))⟩,
      ⟨some 2, .none, true, 4, .assign (.tmp 8)⟩])
  .ret)))
theorem t_right_Good : FnT Try.prog f_right_Good rc_right_Good [.tmp 2] 1 := ⟨⟨[], Try.f108, _, Try.func108, rfl, by kernel_rfl, by kernel_rfl, by kernel_rfl, rfl, by decide⟩, by kernel_rfl⟩
/-- reeve/right.Badge -/
abbrev f_right_Badge : FuncId := 109
def rc_right_Badge : RCode :=
  (.seq
    (.region [⟨some 2, .none, true, 4, .assign (.const (.bool false))⟩])
  (.keep [0]
  (.seq
    (.region [⟨some 3, .none, true, 3, .move (.tmp 0)⟩,
      ⟨some 4, .none, true, 4, .binOp .geq 3 (.tmp 3) (.const (.int .i64 0)) 3⟩,
      ⟨some 5, .none, true, 4, .move (.tmp 4)⟩,
      ⟨some 6, .some 5 true, true, 3, .move (.tmp 0)⟩,
      ⟨some 7, .some 5 true, true, 4, .binOp .leq 3 (.tmp 6) (.const (.int .i64 65535)) 3⟩,
      ⟨some 8, .none, true, 4, .pick (.tmp 5) (.tmp 7) (.const (.bool false))⟩,
      ⟨some 2, .none, true, 4, .assign (.tmp 8)⟩])
  .ret)))
theorem t_right_Badge : FnT Try.prog f_right_Badge rc_right_Badge [.tmp 2] 1 := ⟨⟨[], Try.f109, _, Try.func109, rfl, by kernel_rfl, by kernel_rfl, by kernel_rfl, rfl, by decide⟩, by kernel_rfl⟩
/-- reeve/cap.badged -/
abbrev f_cap_badged : FuncId := 110
def rc_cap_badged : RCode :=
  (.seq
    (.region [⟨some 2, .none, true, 4, .assign (.const (.bool false))⟩])
  (.keep [0]
  (.seq
    (.region [⟨some 3, .none, true, 3, .move (.tmp 0)⟩,
      ⟨some 4, .none, true, 4, .binOp .eql 3 (.tmp 3) (.const (.int .i64 3)) 3⟩,
      ⟨some 5, .none, true, 4, .move (.tmp 4)⟩,
      ⟨some 6, .some 5 false, true, 3, .move (.tmp 0)⟩,
      ⟨some 7, .some 5 false, true, 4, .binOp .eql 3 (.tmp 6) (.const (.int .i64 4)) 3⟩,
      ⟨some 8, .none, true, 4, .pick (.tmp 5) (.const (.bool true)) (.tmp 7)⟩,
      ⟨some 2, .none, true, 4, .assign (.tmp 8)⟩])
  .ret)))
theorem t_cap_badged : FnT Try.prog f_cap_badged rc_cap_badged [.tmp 2] 1 := ⟨⟨[], Try.f110, _, Try.func110, rfl, by kernel_rfl, by kernel_rfl, by kernel_rfl, rfl, by decide⟩, by kernel_rfl⟩
/-- reeve/thing.own -/
abbrev f_thing_own : FuncId := 111
def rc_thing_own : RCode :=
  (.seq
    (.region [⟨some 1, .none, true, 0, .box 71 (.tmp 0)⟩,
      ⟨some 2, .none, true, 0, .alloc 71⟩])
  (.keep [1, 2]
  (.seq
    (.seq
      (.region [⟨some 3, .none, true, 0, .fieldAddr 71 (.tmp 1) 0⟩,
        ⟨some 4, .none, true, 3, .load 3 (.tmp 3)⟩])
    (.keep [1, 2, 4]
    (.block 0
      (.seq
        (.region [⟨some 6, .none, true, 4, .binOp .eql 3 (.tmp 4) (.const (.int .i64 1)) 3⟩,
          ⟨some 5, .none, true, 4, .assign (.tmp 6)⟩])
      (.keep [1, 2, 4, 5]
      (.cond (.tmp 5)
        (.seq
          (.region [⟨some 7, .none, true, 0, .fieldAddr 71 (.tmp 1) 0⟩,
            ⟨some 8, .none, true, 3, .load 3 (.tmp 7)⟩,
            ⟨some 9, .none, true, 0, .fieldAddr 71 (.tmp 1) 3⟩,
            ⟨some 10, .none, true, 3, .load 3 (.tmp 9)⟩,
            ⟨some 11, .none, true, 0, .fieldAddr 71 (.tmp 1) 4⟩,
            ⟨some 12, .none, true, 3, .load 3 (.tmp 11)⟩,
            ⟨some 13, .none, true, 71, .build 71 #[(0, .tmp 8), (3, .tmp 10), (4, .tmp 12)]⟩,
            ⟨none, .none, true, 0, .store 71 (.tmp 2) (.tmp 13)⟩])
        .ret)
        (.seq
          (.region [⟨some 15, .none, true, 4, .binOp .eql 3 (.tmp 4) (.const (.int .i64 2)) 3⟩,
            ⟨some 14, .none, true, 4, .assign (.tmp 15)⟩])
        (.keep [1, 2, 4, 14]
        (.cond (.tmp 14)
          (.seq
            (.region [⟨some 16, .none, true, 0, .fieldAddr 71 (.tmp 1) 0⟩,
              ⟨some 17, .none, true, 3, .load 3 (.tmp 16)⟩,
              ⟨some 18, .none, true, 0, .fieldAddr 71 (.tmp 1) 1⟩,
              ⟨some 19, .none, true, 3, .load 3 (.tmp 18)⟩,
              ⟨some 20, .none, true, 0, .fieldAddr 71 (.tmp 1) 2⟩,
              ⟨some 21, .none, true, 3, .load 3 (.tmp 20)⟩,
              ⟨some 22, .none, true, 71, .build 71 #[(0, .tmp 17), (1, .tmp 19), (2, .tmp 21)]⟩,
              ⟨none, .none, true, 0, .store 71 (.tmp 2) (.tmp 22)⟩])
          .ret)
          (.seq
            (.region [⟨some 24, .none, true, 4, .binOp .eql 3 (.tmp 4) (.const (.int .i64 3)) 3⟩,
              ⟨some 23, .none, true, 4, .assign (.tmp 24)⟩])
          (.keep [1, 2, 4, 23]
          (.cond (.tmp 23)
            (.seq
              (.seq
                (.region [⟨some 25, .none, true, 0, .fieldAddr 71 (.tmp 1) 7⟩,
                  ⟨some 26, .none, true, 4, .load 4 (.tmp 25)⟩,
                  ⟨some 27, .none, true, 4, .unOp .not 4 (.tmp 26)⟩])
              (.keep [1, 2, 27]
              (.cond (.tmp 27)
                (.seq
                  (.region [⟨some 28, .none, true, 0, .fieldAddr 71 (.tmp 1) 0⟩,
                    ⟨some 29, .none, true, 3, .load 3 (.tmp 28)⟩,
                    ⟨some 30, .none, true, 71, .build 71 #[(0, .tmp 29)]⟩,
                    ⟨none, .none, true, 0, .store 71 (.tmp 2) (.tmp 30)⟩])
                .ret)
                .skip)))
            (.seq
              (.region [⟨some 31, .none, true, 0, .fieldAddr 71 (.tmp 1) 0⟩,
                ⟨some 32, .none, true, 3, .load 3 (.tmp 31)⟩,
                ⟨some 33, .none, true, 0, .fieldAddr 71 (.tmp 1) 8⟩,
                ⟨some 34, .none, true, 68, .load 68 (.tmp 33)⟩,
                ⟨some 35, .none, true, 0, .fieldAddr 71 (.tmp 1) 6⟩,
                ⟨some 36, .none, true, 3, .load 3 (.tmp 35)⟩,
                ⟨some 37, .none, true, 0, .fieldAddr 71 (.tmp 1) 5⟩,
                ⟨some 38, .none, true, 3, .load 3 (.tmp 37)⟩,
                ⟨some 39, .none, true, 71, .build 71 #[(0, .tmp 32), (7, .const (.bool true)), (8, .tmp 34), (6, .tmp 36), (5, .tmp 38)]⟩,
                ⟨none, .none, true, 0, .store 71 (.tmp 2) (.tmp 39)⟩])
            .ret))
            (.seq
              (.region [⟨some 41, .none, true, 4, .binOp .eql 3 (.tmp 4) (.const (.int .i64 4)) 3⟩,
                ⟨some 40, .none, true, 4, .assign (.tmp 41)⟩])
            (.keep [1, 2, 4, 40]
            (.cond (.tmp 40)
              (.seq
                (.region [⟨some 42, .none, true, 0, .fieldAddr 71 (.tmp 1) 0⟩,
                  ⟨some 43, .none, true, 3, .load 3 (.tmp 42)⟩,
                  ⟨some 44, .none, true, 0, .fieldAddr 71 (.tmp 1) 8⟩,
                  ⟨some 45, .none, true, 68, .load 68 (.tmp 44)⟩,
                  ⟨some 46, .none, true, 71, .build 71 #[(0, .tmp 43), (8, .tmp 45)]⟩,
                  ⟨none, .none, true, 0, .store 71 (.tmp 2) (.tmp 46)⟩])
              .ret)
              (.seq
                (.region [⟨some 48, .none, true, 4, .binOp .eql 3 (.tmp 4) (.const (.int .i64 5)) 3⟩,
                  ⟨some 47, .none, true, 4, .assign (.tmp 48)⟩])
              (.keep [1, 2, 47]
              (.cond (.tmp 47)
                (.seq
                  (.region [⟨some 49, .none, true, 0, .fieldAddr 71 (.tmp 1) 0⟩,
                    ⟨some 50, .none, true, 3, .load 3 (.tmp 49)⟩,
                    ⟨some 51, .none, true, 0, .fieldAddr 71 (.tmp 1) 9⟩,
                    ⟨some 52, .none, true, 69, .load 69 (.tmp 51)⟩,
                    ⟨some 53, .none, true, 71, .build 71 #[(0, .tmp 50), (9, .tmp 52)]⟩,
                    ⟨none, .none, true, 0, .store 71 (.tmp 2) (.tmp 53)⟩])
                .ret)
                .skip))))))))))))))))))
  (.seq
    (.region [⟨some 54, .none, true, 71, .build 71 #[]⟩,
      ⟨none, .none, true, 0, .store 71 (.tmp 2) (.tmp 54)⟩])
  .ret))))
theorem t_thing_own : FnT Try.prog f_thing_own rc_thing_own [.cell 2 71] 1 := ⟨⟨[], Try.f111, _, Try.func111, rfl, by kernel_rfl, by kernel_rfl, by kernel_rfl, rfl, by decide⟩, by kernel_rfl⟩
/-- reeve/thing.in -/
abbrev f_thing_in : FuncId := 112
def rc_thing_in : RCode :=
  (.seq
    (.region [⟨some 6, .none, true, 4, .assign (.const (.bool false))⟩])
  (.keep [0, 1, 2]
  (.seq
    (.region [⟨some 7, .none, true, 3, .move (.tmp 0)⟩,
      ⟨some 8, .none, true, 3, .move (.tmp 1)⟩,
      ⟨some 9, .none, true, 4, .binOp .geq 3 (.tmp 7) (.tmp 8) 3⟩,
      ⟨some 10, .none, true, 4, .move (.tmp 9)⟩,
      ⟨some 11, .some 10 true, true, 3, .move (.tmp 0)⟩,
      ⟨some 12, .some 10 true, true, 3, .move (.tmp 2)⟩,
      ⟨some 13, .some 10 true, true, 4, .binOp .leq 3 (.tmp 11) (.tmp 12) 3⟩,
      ⟨some 14, .none, true, 4, .pick (.tmp 10) (.tmp 13) (.const (.bool false))⟩,
      ⟨some 6, .none, true, 4, .assign (.tmp 14)⟩])
  .ret)))
theorem t_thing_in : FnT Try.prog f_thing_in rc_thing_in [.tmp 6] 3 := ⟨⟨[], Try.f112, _, Try.func112, rfl, by kernel_rfl, by kernel_rfl, by kernel_rfl, rfl, by decide⟩, by kernel_rfl⟩
/-- reeve/right.Less -/
abbrev f_right_Less : FuncId := 113
def rc_right_Less : RCode :=
  (.seq
    (.region [⟨some 4, .none, true, 3, .assign (.const (.int .i64 0))⟩])
  (.keep [0, 1]
  (.seq
    (.region [⟨some 5, .none, true, 3, .move (.tmp 0)⟩,
      ⟨some 6, .none, true, 3, .call { callee := .value (.func 126), args := #[.tmp 5], argTypes := #[3] }⟩,
      ⟨some 7, .none, true, 3, .move (.tmp 1)⟩,
      ⟨some 8, .none, true, 3, .call { callee := .value (.func 126), args := #[.tmp 7], argTypes := #[3] }⟩,
      ⟨some 9, .none, true, 3, .binOp .andNot 3 (.tmp 6) (.tmp 8) 3⟩,
      ⟨some 4, .none, true, 3, .assign (.tmp 9)⟩])
  .ret)))
theorem t_right_Less : FnT Try.prog f_right_Less rc_right_Less [.tmp 4] 2 := ⟨⟨[], Try.f113, _, Try.func113, rfl, by kernel_rfl, by kernel_rfl, by kernel_rfl, rfl, by decide⟩, by kernel_rfl⟩
/-- reeve/right.of -/
abbrev f_right_of : FuncId := 126
def rc_right_of : RCode :=
  (.seq
    (.region [⟨some 2, .none, true, 3, .assign (.const (.int .i64 0))⟩])
  (.keep [0]
  (.seq
    (.seq
      (.region [⟨some 3, .none, true, 3, .move (.tmp 0)⟩,
        ⟨some 4, .none, true, 4, .call { callee := .value (.func 108), args := #[.tmp 3], argTypes := #[3] }⟩,
        ⟨some 5, .none, true, 4, .unOp .not 4 (.tmp 4)⟩])
    (.keep [0, 5]
    (.cond (.tmp 5)
      (.seq
        (.region [⟨some 2, .none, true, 3, .assign (.const (.int .i64 0))⟩])
      .ret)
      .skip)))
  (.seq
    (.region [⟨some 6, .none, true, 3, .move (.tmp 0)⟩,
      ⟨some 2, .none, true, 3, .assign (.tmp 6)⟩])
  .ret))))
theorem t_right_of : FnT Try.prog f_right_of rc_right_of [.tmp 2] 1 := ⟨⟨[], Try.f126, _, Try.func126, rfl, by kernel_rfl, by kernel_rfl, by kernel_rfl, rfl, by decide⟩, by kernel_rfl⟩
def tab : XTab :=
  [(10, rc_reevelaw13_FindWays, [.tmp 6], 3),
   (14, rc_state_Good, [.tmp 2], 1),
   (15, rc_cap_None, [.tmp 2], 1),
   (17, rc_state_New, [.cell 4 27, .tmp 5], 2),
   (18, rc_geo_Good, [.tmp 2], 1),
   (19, rc_geo_Root, [.tmp 4], 2),
   (20, rc_state_Owner, [.tmp 4], 2),
   (27, rc_reevelaw13_awake, [.tmp 0], 0),
   (28, rc_find_Slot, [.tmp 6, .tmp 7], 3),
   (29, rc_find_Cap, [.tmp 6, .cell 7 32, .tmp 8], 3),
   (31, rc_geo_Plain, [.cell 0 23], 0),
   (32, rc_state_Forest, [.cell 2 73], 1),
   (34, rc_forest_Good, [.tmp 2], 1),
   (44, rc_find_Ways, [.tmp 6], 3),
   (45, rc_path_Good, [.tmp 2], 1),
   (46, rc_find_Reach, [.tmp 4], 2),
   (48, rc_reevelaw13_way, [.cell 2 60], 1),
   (50, rc_state_State_caps, [.tmp 2], 1),
   (51, rc_state_State_things, [.tmp 2], 1),
   (52, rc_state_State_nodes, [.tmp 2], 1),
   (53, rc_state_State_ring, [.tmp 2], 1),
   (54, rc_state_State_allowed, [.tmp 2], 1),
   (55, rc_state_State_holders, [.tmp 4], 2),
   (56, rc_thing_New, [.cell 6 71, .tmp 7], 3),
   (57, rc_geo_in, [.tmp 6], 3),
   (58, rc_state_State_owner, [.tmp 4], 2),
   (59, rc_slices_IndexFunc_S_thing_Thing_thing_Thing, [.tmp 4], 2),
   (66, rc_reevelaw13_first, [.cell 0 27], 0),
   (67, rc_find_in, [.tmp 6], 3),
   (68, rc_find_through, [.cell 4 71, .tmp 5], 2),
   (69, rc_find_step, [.tmp 4], 2),
   (70, rc_forest_Forest_is, [.tmp 4], 2),
   (71, rc_state_State_inside, [.tmp 6], 3),
   (85, rc_find_ways, [], 4),
   (86, rc_find_Ways_1, [], 4),
   (87, rc_path_Good_1, [.tmp 2], 1),
   (88, rc_slices_ContainsFunc_S_int_int, [.tmp 4], 2),
   (89, rc_find_Reach_1, [], 3),
   (90, rc_slices_Sort_S_int_int, [], 1),
   (91, rc_slices_Compact_S_int_int, [.tmp 2], 1),
   (92, rc_cap_Good, [.tmp 2], 1),
   (93, rc_state_State_there, [.tmp 4], 2),
   (94, rc_thing_Good, [.tmp 2], 1),
   (95, rc_cap_Less, [.tmp 4], 2),
   (96, rc_state_State_owner_1, [.tmp 3], 2),
   (97, rc_state_has, [.tmp 4], 2),
   (98, rc_right_Within, [.tmp 4], 2),
   (99, rc_state_within, [], 3),
   (103, rc_slices_Clone_S_int_int, [.tmp 2], 1),
   (104, rc_slices_IndexFunc_S_int_int, [.tmp 4], 2),
   (107, rc_cap_in, [.tmp 6], 3),
   (108, rc_right_Good, [.tmp 2], 1),
   (109, rc_right_Badge, [.tmp 2], 1),
   (110, rc_cap_badged, [.tmp 2], 1),
   (111, rc_thing_own, [.cell 2 71], 1),
   (112, rc_thing_in, [.tmp 6], 3),
   (113, rc_right_Less, [.tmp 4], 2),
   (126, rc_right_of, [.tmp 2], 1)]
theorem tabOk : TabOk Try.prog tab :=
  .cons t_reevelaw13_FindWays <|
  .cons t_state_Good <|
  .cons t_cap_None <|
  .cons t_state_New <|
  .cons t_geo_Good <|
  .cons t_geo_Root <|
  .cons t_state_Owner <|
  .cons t_reevelaw13_awake <|
  .cons t_find_Slot <|
  .cons t_find_Cap <|
  .cons t_geo_Plain <|
  .cons t_state_Forest <|
  .cons t_forest_Good <|
  .cons t_find_Ways <|
  .cons t_path_Good <|
  .cons t_find_Reach <|
  .cons t_reevelaw13_way <|
  .cons t_state_State_caps <|
  .cons t_state_State_things <|
  .cons t_state_State_nodes <|
  .cons t_state_State_ring <|
  .cons t_state_State_allowed <|
  .cons t_state_State_holders <|
  .cons t_thing_New <|
  .cons t_geo_in <|
  .cons t_state_State_owner <|
  .cons t_slices_IndexFunc_S_thing_Thing_thing_Thing <|
  .cons t_reevelaw13_first <|
  .cons t_find_in <|
  .cons t_find_through <|
  .cons t_find_step <|
  .cons t_forest_Forest_is <|
  .cons t_state_State_inside <|
  .cons t_find_ways <|
  .cons t_find_Ways_1 <|
  .cons t_path_Good_1 <|
  .cons t_slices_ContainsFunc_S_int_int <|
  .cons t_find_Reach_1 <|
  .cons t_slices_Sort_S_int_int <|
  .cons t_slices_Compact_S_int_int <|
  .cons t_cap_Good <|
  .cons t_state_State_there <|
  .cons t_thing_Good <|
  .cons t_cap_Less <|
  .cons t_state_State_owner_1 <|
  .cons t_state_has <|
  .cons t_right_Within <|
  .cons t_state_within <|
  .cons t_slices_Clone_S_int_int <|
  .cons t_slices_IndexFunc_S_int_int <|
  .cons t_cap_in <|
  .cons t_right_Good <|
  .cons t_right_Badge <|
  .cons t_cap_badged <|
  .cons t_thing_own <|
  .cons t_thing_in <|
  .cons t_right_Less <|
  .cons t_right_of <| .nil

end Go.Proofs.Ytkcahnefekkfaaa.F13W
