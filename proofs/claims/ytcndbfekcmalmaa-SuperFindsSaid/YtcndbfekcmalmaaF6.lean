/- Functions of the program made ready for walking, each with its proof; facts of types. Written by gen2.py. -/
import Derived.Test.YtcndbfekcmalmaaProg
import Derived.Test.YtcndbfekcmalmaaAbsD
set_option linter.unusedVariables false
set_option maxRecDepth 100000
namespace Go.Proofs.Ytcndbfekcmalmaa.F6
open Go Go.Proofs Go.Proofs.YtcndbfekcmalmaaAbs
theorem hm : Try.prog.follows .mixedOrders = true := by kernel_rfl
/-- math.archTrunc (without a body) -/
abbrev f_math_archTrunc : FuncId := 64
/-- math.Float64bits (without a body) -/
abbrev f_math_Float64bits : FuncId := 66
/-- math.Float64frombits (without a body) -/
abbrev f_math_Float64frombits : FuncId := 71
abbrev T_int : TypeId := 3
theorem ts_int : tsize Try.prog 3 = some 1 := by kernel_rfl
theorem tb_int : tbytes Try.prog 3 = some 8 := by kernel_rfl
theorem ta_int : tagg Try.prog 3 = some false := by kernel_rfl
theorem tz_int : zeroFlat Try.prog 3 = some [.int .i64 0] := by kernel_rfl
theorem tv_int : tzero Try.prog 3 = some (.int .i64 0) := by kernel_rfl
theorem tu_int : Try.prog.underlying 3 = some (.int .i64) := by kernel_rfl
abbrev T_bool : TypeId := 4
theorem ts_bool : tsize Try.prog 4 = some 1 := by kernel_rfl
theorem tb_bool : tbytes Try.prog 4 = some 1 := by kernel_rfl
theorem ta_bool : tagg Try.prog 4 = some false := by kernel_rfl
theorem tz_bool : zeroFlat Try.prog 4 = some [.bool false] := by kernel_rfl
theorem tv_bool : tzero Try.prog 4 = some (.bool false) := by kernel_rfl
theorem tu_bool : Try.prog.underlying 4 = some (.bool) := by kernel_rfl
abbrev T_S_uint64 : TypeId := 31
abbrev T_uint64 : TypeId := 34
theorem ts_uint64 : tsize Try.prog 34 = some 1 := by kernel_rfl
theorem tb_uint64 : tbytes Try.prog 34 = some 8 := by kernel_rfl
theorem ta_uint64 : tagg Try.prog 34 = some false := by kernel_rfl
theorem tz_uint64 : zeroFlat Try.prog 34 = some [.int .u64 0] := by kernel_rfl
theorem tv_uint64 : tzero Try.prog 34 = some (.int .u64 0) := by kernel_rfl
theorem tu_uint64 : Try.prog.underlying 34 = some (.int .u64) := by kernel_rfl
theorem ts_S_uint64 : tsize Try.prog 31 = some 1 := by kernel_rfl
theorem tb_S_uint64 : tbytes Try.prog 31 = some 24 := by kernel_rfl
theorem ta_S_uint64 : tagg Try.prog 31 = some false := by kernel_rfl
theorem tz_S_uint64 : zeroFlat Try.prog 31 = some [.slice none 0 0] := by kernel_rfl
theorem tv_S_uint64 : tzero Try.prog 31 = some (.slice none 0 0) := by kernel_rfl
theorem tu_S_uint64 : Try.prog.underlying 31 = some (.slice 34) := by kernel_rfl
abbrev T_uint16 : TypeId := 32
theorem ts_uint16 : tsize Try.prog 32 = some 1 := by kernel_rfl
theorem tb_uint16 : tbytes Try.prog 32 = some 2 := by kernel_rfl
theorem ta_uint16 : tagg Try.prog 32 = some false := by kernel_rfl
theorem tz_uint16 : zeroFlat Try.prog 32 = some [.int .u16 0] := by kernel_rfl
theorem tv_uint16 : tzero Try.prog 32 = some (.int .u16 0) := by kernel_rfl
theorem tu_uint16 : Try.prog.underlying 32 = some (.int .u16) := by kernel_rfl
abbrev T_uint : TypeId := 33
theorem ts_uint : tsize Try.prog 33 = some 1 := by kernel_rfl
theorem tb_uint : tbytes Try.prog 33 = some 8 := by kernel_rfl
theorem ta_uint : tagg Try.prog 33 = some false := by kernel_rfl
theorem tz_uint : zeroFlat Try.prog 33 = some [.int .u64 0] := by kernel_rfl
theorem tv_uint : tzero Try.prog 33 = some (.int .u64 0) := by kernel_rfl
theorem tu_uint : Try.prog.underlying 33 = some (.int .u64) := by kernel_rfl
abbrev T_geo_Geo : TypeId := 52
theorem te_geo_Geo : eqOk Try.prog 52 = some [.int .i64, .int .i64, .int .i64] := by kernel_rfl
theorem ts_geo_Geo : tsize Try.prog 52 = some 3 := by kernel_rfl
theorem tb_geo_Geo : tbytes Try.prog 52 = some 24 := by kernel_rfl
theorem ta_geo_Geo : tagg Try.prog 52 = some true := by kernel_rfl
theorem tz_geo_Geo : zeroFlat Try.prog 52 = some [.int .i64 0, .int .i64 0, .int .i64 0] := by kernel_rfl
theorem tv_geo_Geo : tzero Try.prog 52 = some (.agg #[.int .i64 0, .int .i64 0, .int .i64 0]) := by kernel_rfl
theorem tp_geo_Geo : tplaces Try.prog 52 = some [(0, 1), (1, 1), (2, 1)] := by kernel_rfl
theorem tf_geo_Geo_Threads : tfield Try.prog 52 0 = some (3, 0) := by kernel_rfl
theorem tg_geo_Geo_Threads : tfield' Try.prog 52 0 = some (3, 0) := by kernel_rfl
theorem tf_geo_Geo_Slots : tfield Try.prog 52 1 = some (3, 1) := by kernel_rfl
theorem tg_geo_Geo_Slots : tfield' Try.prog 52 1 = some (3, 1) := by kernel_rfl
theorem tf_geo_Geo_Things : tfield Try.prog 52 2 = some (3, 2) := by kernel_rfl
theorem tg_geo_Geo_Things : tfield' Try.prog 52 2 = some (3, 2) := by kernel_rfl
abbrev T_super_Super : TypeId := 54
theorem te_super_Super : eqOk Try.prog 54 = some [.int .i64, .int .i64, .int .i64, .int .u64] := by kernel_rfl
theorem ts_super_Super : tsize Try.prog 54 = some 4 := by kernel_rfl
theorem tb_super_Super : tbytes Try.prog 54 = some 32 := by kernel_rfl
theorem ta_super_Super : tagg Try.prog 54 = some true := by kernel_rfl
theorem tz_super_Super : zeroFlat Try.prog 54 = some [.int .i64 0, .int .i64 0, .int .i64 0, .int .u64 0] := by kernel_rfl
theorem tv_super_Super : tzero Try.prog 54 = some (.agg #[.int .i64 0, .int .i64 0, .int .i64 0, .int .u64 0]) := by kernel_rfl
theorem tp_super_Super : tplaces Try.prog 54 = some [(0, 3), (3, 1)] := by kernel_rfl
theorem tf_super_Super_Geo : tfield Try.prog 54 0 = some (52, 0) := by kernel_rfl
theorem tg_super_Super_Geo : tfield' Try.prog 54 0 = some (52, 0) := by kernel_rfl
theorem tf_super_Super_Boot : tfield Try.prog 54 1 = some (34, 3) := by kernel_rfl
theorem tg_super_Super_Boot : tfield' Try.prog 54 1 = some (34, 3) := by kernel_rfl
abbrev T_reeveref1_Geo : TypeId := 63
theorem te_reeveref1_Geo : eqOk Try.prog 63 = some [.int .i64, .int .i64, .int .i64] := by kernel_rfl
theorem ts_reeveref1_Geo : tsize Try.prog 63 = some 3 := by kernel_rfl
theorem tb_reeveref1_Geo : tbytes Try.prog 63 = some 24 := by kernel_rfl
theorem ta_reeveref1_Geo : tagg Try.prog 63 = some true := by kernel_rfl
theorem tz_reeveref1_Geo : zeroFlat Try.prog 63 = some [.int .i64 0, .int .i64 0, .int .i64 0] := by kernel_rfl
theorem tv_reeveref1_Geo : tzero Try.prog 63 = some (.agg #[.int .i64 0, .int .i64 0, .int .i64 0]) := by kernel_rfl
theorem tp_reeveref1_Geo : tplaces Try.prog 63 = some [(0, 1), (1, 1), (2, 1)] := by kernel_rfl
theorem tf_reeveref1_Geo_Threads : tfield Try.prog 63 0 = some (3, 0) := by kernel_rfl
theorem tg_reeveref1_Geo_Threads : tfield' Try.prog 63 0 = some (3, 0) := by kernel_rfl
theorem tf_reeveref1_Geo_Slots : tfield Try.prog 63 1 = some (3, 1) := by kernel_rfl
theorem tg_reeveref1_Geo_Slots : tfield' Try.prog 63 1 = some (3, 1) := by kernel_rfl
theorem tf_reeveref1_Geo_Things : tfield Try.prog 63 2 = some (3, 2) := by kernel_rfl
theorem tg_reeveref1_Geo_Things : tfield' Try.prog 63 2 = some (3, 2) := by kernel_rfl
abbrev T_reeveref1_Super : TypeId := 65
theorem te_reeveref1_Super : eqOk Try.prog 65 = some [.int .i64, .int .i64, .int .i64, .int .u64] := by kernel_rfl
theorem ts_reeveref1_Super : tsize Try.prog 65 = some 4 := by kernel_rfl
theorem tb_reeveref1_Super : tbytes Try.prog 65 = some 32 := by kernel_rfl
theorem ta_reeveref1_Super : tagg Try.prog 65 = some true := by kernel_rfl
theorem tz_reeveref1_Super : zeroFlat Try.prog 65 = some [.int .i64 0, .int .i64 0, .int .i64 0, .int .u64 0] := by kernel_rfl
theorem tv_reeveref1_Super : tzero Try.prog 65 = some (.agg #[.int .i64 0, .int .i64 0, .int .i64 0, .int .u64 0]) := by kernel_rfl
theorem tp_reeveref1_Super : tplaces Try.prog 65 = some [(0, 3), (3, 1)] := by kernel_rfl
theorem tf_reeveref1_Super_Geo : tfield Try.prog 65 0 = some (63, 0) := by kernel_rfl
theorem tg_reeveref1_Super_Geo : tfield' Try.prog 65 0 = some (63, 0) := by kernel_rfl
theorem tf_reeveref1_Super_Boot : tfield Try.prog 65 1 = some (34, 3) := by kernel_rfl
theorem tg_reeveref1_Super_Boot : tfield' Try.prog 65 1 = some (34, 3) := by kernel_rfl
abbrev T_int64 : TypeId := 2
theorem ts_int64 : tsize Try.prog 2 = some 1 := by kernel_rfl
theorem tb_int64 : tbytes Try.prog 2 = some 8 := by kernel_rfl
theorem ta_int64 : tagg Try.prog 2 = some false := by kernel_rfl
theorem tz_int64 : zeroFlat Try.prog 2 = some [.int .i64 0] := by kernel_rfl
theorem tv_int64 : tzero Try.prog 2 = some (.int .i64 0) := by kernel_rfl
theorem tu_int64 : Try.prog.underlying 2 = some (.int .i64) := by kernel_rfl
abbrev T_complex128 : TypeId := 23
theorem ts_complex128 : tsize Try.prog 23 = some 1 := by kernel_rfl
theorem tb_complex128 : tbytes Try.prog 23 = some 16 := by kernel_rfl
theorem ta_complex128 : tagg Try.prog 23 = some false := by kernel_rfl
theorem tz_complex128 : zeroFlat Try.prog 23 = some [.complex .f64 0 0] := by kernel_rfl
theorem tv_complex128 : tzero Try.prog 23 = some (.complex .f64 0 0) := by kernel_rfl
theorem tu_complex128 : Try.prog.underlying 23 = some (.complex .f64) := by kernel_rfl
abbrev T_float64 : TypeId := 48
theorem ts_float64 : tsize Try.prog 48 = some 1 := by kernel_rfl
theorem tb_float64 : tbytes Try.prog 48 = some 8 := by kernel_rfl
theorem ta_float64 : tagg Try.prog 48 = some false := by kernel_rfl
theorem tz_float64 : zeroFlat Try.prog 48 = some [.float .f64 0] := by kernel_rfl
theorem tv_float64 : tzero Try.prog 48 = some (.float .f64 0) := by kernel_rfl
theorem tu_float64 : Try.prog.underlying 48 = some (.float .f64) := by kernel_rfl
theorem bl_S_uint64 : ∀ (ty : TypeId) (ev : Operand → Value) (g : AMem) (n : Nat) (len : Nat) (parts : Array (Nat × Operand)), len * 1 ≤ 16777216 → aOp Try.prog ty ev g n (.buildSlice 31 len parts) = (fillS 1 (zeroRow [.int .u64 0] len) (parts.toList.map fun p => (p.1, ev p.2))).map fun cs => (.slice (some ⟨n, 0, none⟩) len 1, .new (.row cs true)) := fun ty ev g n len parts hb => aOp_buildL tu_S_uint64 tz_uint64 ts_uint64 rfl ty ev g n len parts hb
theorem ap_S_uint64 : ∀ (g : AMem) (n : Nat) (s x : Value), aAppend Try.prog g n 31 s x = appR g n 0 8 s (aRead g 1 x) := inst_append tu_S_uint64 ts_uint64 tb_uint64 tv_uint64 rfl
theorem mk_S_uint64 : ∀ (n : Nat) (k k' : IntKind) (l c : Int), aMake Try.prog n 31 (.int k l) (.int k' c) = if 0 ≤ l ∧ l ≤ c ∧ c ≤ 70368744177664 ∧ 8 * c.toNat ≤ 70368744177664 then some (.slice (some ⟨n, 0, none⟩) l.toNat 1, .new (.row (zeroRow [.int .u64 0] l.toNat) true)) else none := inst_make tu_S_uint64 ts_uint64 tb_uint64 tv_uint64 rfl rfl
theorem sl_S_uint64 : ∀ (ty : TypeId) (ev : Operand → Value) (g : AMem) (n : Nat) (x : Operand) (lo hi : Option Operand), aOp Try.prog ty ev g n (.slice 31 x lo hi none) = (slR 1 (ev x) (lo.map ev) (hi.map ev)).map fun v => (v, .none) := aOp_sliceS tu_S_uint64 ts_uint64
theorem cp_S_uint64 : ∀ (g : AMem) (d s : Value), aCopy Try.prog g 31 d s = cpR g 1 d (aRead g 1 s) := aCopy_eq tu_S_uint64 ts_uint64
theorem beq_geo_Geo : ∀ (xo yo : Operand) (xs ys : List Value), fitsB [.int .i64, .int .i64, .int .i64] xs = true → fitsB [.int .i64, .int .i64, .int .i64] ys = true → aBin Try.prog .eql 52 xo yo (.agg xs.toArray) (.agg ys.toArray) = some (.bool (cellsEq xs ys)) := fun _ _ _ _ hx hy => bin_eql_agg te_geo_Geo ta_geo_Geo hx hy
theorem bne_geo_Geo : ∀ (xo yo : Operand) (xs ys : List Value), fitsB [.int .i64, .int .i64, .int .i64] xs = true → fitsB [.int .i64, .int .i64, .int .i64] ys = true → aBin Try.prog .neq 52 xo yo (.agg xs.toArray) (.agg ys.toArray) = some (.bool (!cellsEq xs ys)) := fun _ _ _ _ hx hy => bin_neq_agg te_geo_Geo ta_geo_Geo hx hy
theorem bs_geo_Geo : ∀ (ty : TypeId) (ev : Operand → Value) (g : AMem) (n : Nat) (parts : Array (Nat × Operand)), aOp Try.prog ty ev g n (.build 52 parts) = (fillP [(0, 1), (1, 1), (2, 1)] [.int .i64 0, .int .i64 0, .int .i64 0] (parts.toList.map fun p => (p.1, ev p.2))).map fun cs => (.agg cs.toArray, .none) := aOp_buildS tz_geo_Geo tp_geo_Geo
theorem beq_super_Super : ∀ (xo yo : Operand) (xs ys : List Value), fitsB [.int .i64, .int .i64, .int .i64, .int .u64] xs = true → fitsB [.int .i64, .int .i64, .int .i64, .int .u64] ys = true → aBin Try.prog .eql 54 xo yo (.agg xs.toArray) (.agg ys.toArray) = some (.bool (cellsEq xs ys)) := fun _ _ _ _ hx hy => bin_eql_agg te_super_Super ta_super_Super hx hy
theorem bne_super_Super : ∀ (xo yo : Operand) (xs ys : List Value), fitsB [.int .i64, .int .i64, .int .i64, .int .u64] xs = true → fitsB [.int .i64, .int .i64, .int .i64, .int .u64] ys = true → aBin Try.prog .neq 54 xo yo (.agg xs.toArray) (.agg ys.toArray) = some (.bool (!cellsEq xs ys)) := fun _ _ _ _ hx hy => bin_neq_agg te_super_Super ta_super_Super hx hy
theorem bs_super_Super : ∀ (ty : TypeId) (ev : Operand → Value) (g : AMem) (n : Nat) (parts : Array (Nat × Operand)), aOp Try.prog ty ev g n (.build 54 parts) = (fillP [(0, 3), (3, 1)] [.int .i64 0, .int .i64 0, .int .i64 0, .int .u64 0] (parts.toList.map fun p => (p.1, ev p.2))).map fun cs => (.agg cs.toArray, .none) := aOp_buildS tz_super_Super tp_super_Super
theorem beq_reeveref1_Geo : ∀ (xo yo : Operand) (xs ys : List Value), fitsB [.int .i64, .int .i64, .int .i64] xs = true → fitsB [.int .i64, .int .i64, .int .i64] ys = true → aBin Try.prog .eql 63 xo yo (.agg xs.toArray) (.agg ys.toArray) = some (.bool (cellsEq xs ys)) := fun _ _ _ _ hx hy => bin_eql_agg te_reeveref1_Geo ta_reeveref1_Geo hx hy
theorem bne_reeveref1_Geo : ∀ (xo yo : Operand) (xs ys : List Value), fitsB [.int .i64, .int .i64, .int .i64] xs = true → fitsB [.int .i64, .int .i64, .int .i64] ys = true → aBin Try.prog .neq 63 xo yo (.agg xs.toArray) (.agg ys.toArray) = some (.bool (!cellsEq xs ys)) := fun _ _ _ _ hx hy => bin_neq_agg te_reeveref1_Geo ta_reeveref1_Geo hx hy
theorem bs_reeveref1_Geo : ∀ (ty : TypeId) (ev : Operand → Value) (g : AMem) (n : Nat) (parts : Array (Nat × Operand)), aOp Try.prog ty ev g n (.build 63 parts) = (fillP [(0, 1), (1, 1), (2, 1)] [.int .i64 0, .int .i64 0, .int .i64 0] (parts.toList.map fun p => (p.1, ev p.2))).map fun cs => (.agg cs.toArray, .none) := aOp_buildS tz_reeveref1_Geo tp_reeveref1_Geo
theorem beq_reeveref1_Super : ∀ (xo yo : Operand) (xs ys : List Value), fitsB [.int .i64, .int .i64, .int .i64, .int .u64] xs = true → fitsB [.int .i64, .int .i64, .int .i64, .int .u64] ys = true → aBin Try.prog .eql 65 xo yo (.agg xs.toArray) (.agg ys.toArray) = some (.bool (cellsEq xs ys)) := fun _ _ _ _ hx hy => bin_eql_agg te_reeveref1_Super ta_reeveref1_Super hx hy
theorem bne_reeveref1_Super : ∀ (xo yo : Operand) (xs ys : List Value), fitsB [.int .i64, .int .i64, .int .i64, .int .u64] xs = true → fitsB [.int .i64, .int .i64, .int .i64, .int .u64] ys = true → aBin Try.prog .neq 65 xo yo (.agg xs.toArray) (.agg ys.toArray) = some (.bool (!cellsEq xs ys)) := fun _ _ _ _ hx hy => bin_neq_agg te_reeveref1_Super ta_reeveref1_Super hx hy
theorem bs_reeveref1_Super : ∀ (ty : TypeId) (ev : Operand → Value) (g : AMem) (n : Nat) (parts : Array (Nat × Operand)), aOp Try.prog ty ev g n (.build 65 parts) = (fillP [(0, 3), (3, 1)] [.int .i64 0, .int .i64 0, .int .i64 0, .int .u64 0] (parts.toList.map fun p => (p.1, ev p.2))).map fun cs => (.agg cs.toArray, .none) := aOp_buildS tz_reeveref1_Super tp_reeveref1_Super
theorem q_int64 : (tsize Try.prog 2 = some 1) ∧ (tagg Try.prog 2 = some false) ∧ (zeroFlat Try.prog 2 = some [.int .i64 0]) ∧ (Try.prog.underlying 2 = some (.int .i64)) := ⟨ts_int64, ta_int64, tz_int64, tu_int64⟩
theorem q_int : (tsize Try.prog 3 = some 1) ∧ (tagg Try.prog 3 = some false) ∧ (zeroFlat Try.prog 3 = some [.int .i64 0]) ∧ (Try.prog.underlying 3 = some (.int .i64)) := ⟨ts_int, ta_int, tz_int, tu_int⟩
theorem q_bool : (tsize Try.prog 4 = some 1) ∧ (tagg Try.prog 4 = some false) ∧ (zeroFlat Try.prog 4 = some [.bool false]) ∧ (Try.prog.underlying 4 = some (.bool)) := ⟨ts_bool, ta_bool, tz_bool, tu_bool⟩
theorem q_complex128 : (tsize Try.prog 23 = some 1) ∧ (tagg Try.prog 23 = some false) ∧ (zeroFlat Try.prog 23 = some [.complex .f64 0 0]) ∧ (Try.prog.underlying 23 = some (.complex .f64)) := ⟨ts_complex128, ta_complex128, tz_complex128, tu_complex128⟩
theorem q_S_uint64 : (tsize Try.prog 31 = some 1) ∧ (tagg Try.prog 31 = some false) ∧ (zeroFlat Try.prog 31 = some [.slice none 0 0]) ∧ (Try.prog.underlying 31 = some (.slice 34)) ∧ (∀ (ty : TypeId) (ev : Operand → Value) (g : AMem) (n : Nat) (len : Nat) (parts : Array (Nat × Operand)), len * 1 ≤ 16777216 → aOp Try.prog ty ev g n (.buildSlice 31 len parts) = (fillS 1 (zeroRow [.int .u64 0] len) (parts.toList.map fun p => (p.1, ev p.2))).map fun cs => (.slice (some ⟨n, 0, none⟩) len 1, .new (.row cs true))) ∧ (∀ (g : AMem) (n : Nat) (s x : Value), aAppend Try.prog g n 31 s x = appR g n 0 8 s (aRead g 1 x)) ∧ (∀ (n : Nat) (k k' : IntKind) (l c : Int), aMake Try.prog n 31 (.int k l) (.int k' c) = if 0 ≤ l ∧ l ≤ c ∧ c ≤ 70368744177664 ∧ 8 * c.toNat ≤ 70368744177664 then some (.slice (some ⟨n, 0, none⟩) l.toNat 1, .new (.row (zeroRow [.int .u64 0] l.toNat) true)) else none) ∧ (∀ (ty : TypeId) (ev : Operand → Value) (g : AMem) (n : Nat) (x : Operand) (lo hi : Option Operand), aOp Try.prog ty ev g n (.slice 31 x lo hi none) = (slR 1 (ev x) (lo.map ev) (hi.map ev)).map fun v => (v, .none)) ∧ (∀ (g : AMem) (d s : Value), aCopy Try.prog g 31 d s = cpR g 1 d (aRead g 1 s)) := ⟨ts_S_uint64, ta_S_uint64, tz_S_uint64, tu_S_uint64, bl_S_uint64, ap_S_uint64, mk_S_uint64, sl_S_uint64, cp_S_uint64⟩
theorem q_uint16 : (tsize Try.prog 32 = some 1) ∧ (tagg Try.prog 32 = some false) ∧ (zeroFlat Try.prog 32 = some [.int .u16 0]) ∧ (Try.prog.underlying 32 = some (.int .u16)) := ⟨ts_uint16, ta_uint16, tz_uint16, tu_uint16⟩
theorem q_uint : (tsize Try.prog 33 = some 1) ∧ (tagg Try.prog 33 = some false) ∧ (zeroFlat Try.prog 33 = some [.int .u64 0]) ∧ (Try.prog.underlying 33 = some (.int .u64)) := ⟨ts_uint, ta_uint, tz_uint, tu_uint⟩
theorem q_uint64 : (tsize Try.prog 34 = some 1) ∧ (tagg Try.prog 34 = some false) ∧ (zeroFlat Try.prog 34 = some [.int .u64 0]) ∧ (Try.prog.underlying 34 = some (.int .u64)) := ⟨ts_uint64, ta_uint64, tz_uint64, tu_uint64⟩
theorem q_float64 : (tsize Try.prog 48 = some 1) ∧ (tagg Try.prog 48 = some false) ∧ (zeroFlat Try.prog 48 = some [.float .f64 0]) ∧ (Try.prog.underlying 48 = some (.float .f64)) := ⟨ts_float64, ta_float64, tz_float64, tu_float64⟩
theorem q_geo_Geo : (tsize Try.prog 52 = some 3) ∧ (tagg Try.prog 52 = some true) ∧ (zeroFlat Try.prog 52 = some [.int .i64 0, .int .i64 0, .int .i64 0]) ∧ (tplaces Try.prog 52 = some [(0, 1), (1, 1), (2, 1)]) ∧ (tfield Try.prog 52 0 = some (3, 0)) ∧ (tfield' Try.prog 52 0 = some (3, 0)) ∧ (tfield Try.prog 52 1 = some (3, 1)) ∧ (tfield' Try.prog 52 1 = some (3, 1)) ∧ (tfield Try.prog 52 2 = some (3, 2)) ∧ (tfield' Try.prog 52 2 = some (3, 2)) ∧ (∀ (ty : TypeId) (ev : Operand → Value) (g : AMem) (n : Nat) (parts : Array (Nat × Operand)), aOp Try.prog ty ev g n (.build 52 parts) = (fillP [(0, 1), (1, 1), (2, 1)] [.int .i64 0, .int .i64 0, .int .i64 0] (parts.toList.map fun p => (p.1, ev p.2))).map fun cs => (.agg cs.toArray, .none)) := ⟨ts_geo_Geo, ta_geo_Geo, tz_geo_Geo, tp_geo_Geo, tf_geo_Geo_Threads, tg_geo_Geo_Threads, tf_geo_Geo_Slots, tg_geo_Geo_Slots, tf_geo_Geo_Things, tg_geo_Geo_Things, bs_geo_Geo⟩
theorem q_super_Super : (tsize Try.prog 54 = some 4) ∧ (tagg Try.prog 54 = some true) ∧ (zeroFlat Try.prog 54 = some [.int .i64 0, .int .i64 0, .int .i64 0, .int .u64 0]) ∧ (tplaces Try.prog 54 = some [(0, 3), (3, 1)]) ∧ (tfield Try.prog 54 0 = some (52, 0)) ∧ (tfield' Try.prog 54 0 = some (52, 0)) ∧ (tfield Try.prog 54 1 = some (34, 3)) ∧ (tfield' Try.prog 54 1 = some (34, 3)) ∧ (∀ (ty : TypeId) (ev : Operand → Value) (g : AMem) (n : Nat) (parts : Array (Nat × Operand)), aOp Try.prog ty ev g n (.build 54 parts) = (fillP [(0, 3), (3, 1)] [.int .i64 0, .int .i64 0, .int .i64 0, .int .u64 0] (parts.toList.map fun p => (p.1, ev p.2))).map fun cs => (.agg cs.toArray, .none)) := ⟨ts_super_Super, ta_super_Super, tz_super_Super, tp_super_Super, tf_super_Super_Geo, tg_super_Super_Geo, tf_super_Super_Boot, tg_super_Super_Boot, bs_super_Super⟩
theorem q_reeveref1_Geo : (tsize Try.prog 63 = some 3) ∧ (tagg Try.prog 63 = some true) ∧ (zeroFlat Try.prog 63 = some [.int .i64 0, .int .i64 0, .int .i64 0]) ∧ (tplaces Try.prog 63 = some [(0, 1), (1, 1), (2, 1)]) ∧ (tfield Try.prog 63 0 = some (3, 0)) ∧ (tfield' Try.prog 63 0 = some (3, 0)) ∧ (tfield Try.prog 63 1 = some (3, 1)) ∧ (tfield' Try.prog 63 1 = some (3, 1)) ∧ (tfield Try.prog 63 2 = some (3, 2)) ∧ (tfield' Try.prog 63 2 = some (3, 2)) ∧ (∀ (ty : TypeId) (ev : Operand → Value) (g : AMem) (n : Nat) (parts : Array (Nat × Operand)), aOp Try.prog ty ev g n (.build 63 parts) = (fillP [(0, 1), (1, 1), (2, 1)] [.int .i64 0, .int .i64 0, .int .i64 0] (parts.toList.map fun p => (p.1, ev p.2))).map fun cs => (.agg cs.toArray, .none)) := ⟨ts_reeveref1_Geo, ta_reeveref1_Geo, tz_reeveref1_Geo, tp_reeveref1_Geo, tf_reeveref1_Geo_Threads, tg_reeveref1_Geo_Threads, tf_reeveref1_Geo_Slots, tg_reeveref1_Geo_Slots, tf_reeveref1_Geo_Things, tg_reeveref1_Geo_Things, bs_reeveref1_Geo⟩
theorem q_reeveref1_Super : (tsize Try.prog 65 = some 4) ∧ (tagg Try.prog 65 = some true) ∧ (zeroFlat Try.prog 65 = some [.int .i64 0, .int .i64 0, .int .i64 0, .int .u64 0]) ∧ (tplaces Try.prog 65 = some [(0, 3), (3, 1)]) ∧ (tfield Try.prog 65 0 = some (63, 0)) ∧ (tfield' Try.prog 65 0 = some (63, 0)) ∧ (tfield Try.prog 65 1 = some (34, 3)) ∧ (tfield' Try.prog 65 1 = some (34, 3)) ∧ (∀ (ty : TypeId) (ev : Operand → Value) (g : AMem) (n : Nat) (parts : Array (Nat × Operand)), aOp Try.prog ty ev g n (.build 65 parts) = (fillP [(0, 3), (3, 1)] [.int .i64 0, .int .i64 0, .int .i64 0, .int .u64 0] (parts.toList.map fun p => (p.1, ev p.2))).map fun cs => (.agg cs.toArray, .none)) := ⟨ts_reeveref1_Super, ta_reeveref1_Super, tz_reeveref1_Super, tp_reeveref1_Super, tf_reeveref1_Super_Geo, tg_reeveref1_Super_Geo, tf_reeveref1_Super_Boot, tg_reeveref1_Super_Boot, bs_reeveref1_Super⟩
/-- reeve/reevelaw6.SuperTurned -/
abbrev f_reevelaw6_SuperTurned : FuncId := 10
def rc_reevelaw6_SuperTurned : RCode :=
  (.seq
    (.region [⟨some 4, .none, true, 0, .box 54 (.tmp 0)⟩,
      ⟨some 8, .none, true, 4, .assign (.const (.bool false))⟩])
  (.keep [1, 2, 3, 4]
  (.seq
    (.seq
      (.region [⟨some 14, .none, true, 4, .call { callee := .value (.func 34), args := #[], argTypes := #[] }⟩,
        ⟨some 15, .none, true, 4, .unOp .not 4 (.tmp 14)⟩])
    (.keep [1, 2, 3, 4, 15]
    (.cond (.tmp 15)
      (.seq
        (.region [⟨some 8, .none, true, 4, .assign (.const (.bool false))⟩])
      .ret)
      .skip)))
  (.seq
    (.region [⟨some 16, .none, true, 54, .load 54 (.tmp 4)⟩,
      ⟨some 17, .none, true, 31, .call { callee := .value (.func 35), args := #[.tmp 16], argTypes := #[54] }⟩,
      ⟨some 9, .none, true, 31, .assign (.tmp 17)⟩])
  (.keep [1, 2, 3, 9]
  (.seq
    (.seq
      (.region [⟨some 18, .none, true, 31, .move (.tmp 9)⟩,
        ⟨some 19, .none, true, 3, .call { callee := .builtin .len, args := #[.tmp 18], argTypes := #[31] }⟩,
        ⟨some 20, .none, true, 4, .binOp .neq 3 (.tmp 19) (.const (.int .i64 8)) 3⟩,
        ⟨some 21, .none, true, 4, .move (.tmp 20)⟩,
        ⟨some 22, .some 21 false, true, 3, .move (.tmp 1)⟩,
        ⟨some 23, .some 21 false, true, 4, .binOp .lss 3 (.tmp 22) (.const (.int .i64 0)) 3⟩,
        ⟨some 24, .none, true, 4, .pick (.tmp 21) (.const (.bool true)) (.tmp 23)⟩,
        ⟨some 25, .none, true, 4, .move (.tmp 24)⟩,
        ⟨some 26, .some 25 false, true, 3, .move (.tmp 1)⟩,
        ⟨some 27, .some 25 false, true, 4, .binOp .gtr 3 (.tmp 26) (.const (.int .i64 7)) 3⟩,
        ⟨some 28, .none, true, 4, .pick (.tmp 25) (.const (.bool true)) (.tmp 27)⟩,
        ⟨some 29, .none, true, 4, .move (.tmp 28)⟩,
        ⟨some 30, .some 29 false, true, 3, .move (.tmp 2)⟩,
        ⟨some 31, .some 29 false, true, 4, .binOp .lss 3 (.tmp 30) (.const (.int .i64 0)) 3⟩,
        ⟨some 32, .none, true, 4, .pick (.tmp 29) (.const (.bool true)) (.tmp 31)⟩,
        ⟨some 33, .none, true, 4, .move (.tmp 32)⟩,
        ⟨some 34, .some 33 false, true, 3, .move (.tmp 2)⟩,
        ⟨some 35, .some 33 false, true, 4, .binOp .gtr 3 (.tmp 34) (.const (.int .i64 3)) 3⟩,
        ⟨some 36, .none, true, 4, .pick (.tmp 33) (.const (.bool true)) (.tmp 35)⟩])
    (.keep [1, 2, 3, 9, 36]
    (.cond (.tmp 36)
      (.seq
        (.region [⟨some 37, .none, true, 31, .move (.tmp 9)⟩,
          ⟨some 38, .none, true, 3, .call { callee := .builtin .len, args := #[.tmp 37], argTypes := #[31] }⟩,
          ⟨some 39, .none, true, 4, .binOp .eql 3 (.tmp 38) (.const (.int .i64 8)) 3⟩,
          ⟨some 40, .none, true, 4, .move (.tmp 39)⟩,
          ⟨some 41, .some 40 false, true, 31, .move (.tmp 9)⟩,
          ⟨some 42, .some 40 false, true, 3, .call { callee := .builtin .len, args := #[.tmp 41], argTypes := #[31] }⟩,
          ⟨some 43, .some 40 false, true, 4, .binOp .eql 3 (.tmp 42) (.const (.int .i64 0)) 3⟩,
          ⟨some 44, .none, true, 4, .pick (.tmp 40) (.const (.bool true)) (.tmp 43)⟩,
          ⟨some 8, .none, true, 4, .assign (.tmp 44)⟩])
      .ret)
      .skip)))
  (.seq
    (.region [⟨some 45, .none, true, 3, .move (.tmp 2)⟩,
      ⟨some 46, .none, true, 3, .binOp .mul 3 (.const (.int .i64 16)) (.tmp 45) 3⟩,
      ⟨some 47, .none, true, 33, .convert 3 33 (.tmp 46)⟩,
      ⟨some 10, .none, true, 33, .assign (.tmp 47)⟩])
  (.keep [1, 3, 9, 10]
  (.seq
    (.region [⟨some 48, .none, true, 31, .buildSlice 31 0 #[]⟩,
      ⟨some 49, .none, true, 31, .move (.tmp 9)⟩,
      ⟨some 50, .none, true, 31, .call { callee := .builtin .append, args := #[.tmp 48, .tmp 49], argTypes := #[31, 31] }⟩,
      ⟨some 11, .none, true, 31, .assign (.tmp 50)⟩])
  (.keep [1, 3, 9, 10, 11]
  (.seq
    (.region [⟨some 51, .none, true, 31, .move (.tmp 11)⟩,
      ⟨some 52, .none, true, 3, .move (.tmp 1)⟩,
      ⟨some 53, .none, true, 31, .move (.tmp 11)⟩,
      ⟨some 54, .none, true, 3, .move (.tmp 1)⟩,
      ⟨some 55, .none, true, 0, .indexAddr 31 (.tmp 53) (.tmp 54)⟩,
      ⟨some 56, .none, true, 34, .load 34 (.tmp 55)⟩,
      ⟨some 57, .none, true, 33, .move (.tmp 10)⟩,
      ⟨some 58, .none, true, 34, .binOp .shl 34 (.const (.int .u64 65535)) (.tmp 57) 33⟩,
      ⟨some 59, .none, true, 34, .binOp .andNot 34 (.tmp 56) (.tmp 58) 34⟩,
      ⟨some 60, .none, true, 32, .move (.tmp 3)⟩,
      ⟨some 61, .none, true, 34, .convert 32 34 (.tmp 60)⟩,
      ⟨some 62, .none, true, 33, .move (.tmp 10)⟩,
      ⟨some 63, .none, true, 34, .binOp .shl 34 (.tmp 61) (.tmp 62) 33⟩,
      ⟨some 64, .none, true, 34, .binOp .or 34 (.tmp 59) (.tmp 63) 34⟩,
      ⟨some 65, .none, true, 0, .indexAddr 31 (.tmp 51) (.tmp 52)⟩,
      ⟨none, .none, true, 0, .store 34 (.tmp 65) (.tmp 64)⟩])
  (.keep [9, 11]
  (.seq
    (.region [⟨some 67, .none, true, 31, .move (.tmp 11)⟩,
      ⟨some 68, .none, true, 56, .call { callee := .value (.func 36), args := #[.tmp 67], argTypes := #[31] }⟩,
      ⟨some 66, .none, true, 56, .move (.tmp 68)⟩,
      ⟨some 69, .none, true, 54, .extract (.tmp 66) 0⟩,
      ⟨some 70, .none, true, 4, .extract (.tmp 66) 1⟩,
      ⟨some 12, .none, true, 0, .alloc 54⟩,
      ⟨none, .none, true, 0, .store 54 (.tmp 12) (.tmp 69)⟩,
      ⟨some 13, .none, true, 4, .assign (.tmp 70)⟩])
  (.keep [9, 11, 13]
  (.seq
    (.region [⟨some 71, .none, true, 4, .move (.tmp 13)⟩,
      ⟨some 72, .none, true, 31, .move (.tmp 9)⟩,
      ⟨some 73, .none, true, 31, .move (.tmp 11)⟩,
      ⟨some 74, .none, true, 4, .call { callee := .value (.func 37), args := #[.tmp 72, .tmp 73], argTypes := #[31, 31] }⟩,
      ⟨some 75, .none, true, 4, .binOp .eql 4 (.tmp 71) (.tmp 74) 4⟩,
      ⟨some 8, .none, true, 4, .assign (.tmp 75)⟩])
  .ret)))))))))))))))
theorem t_reevelaw6_SuperTurned : FnT Try.prog f_reevelaw6_SuperTurned rc_reevelaw6_SuperTurned [.tmp 8] 4 := ⟨⟨[], Try.f10, _, Try.func10, rfl, by kernel_rfl, by kernel_rfl, by kernel_rfl, rfl, by decide⟩, by kernel_rfl⟩
/-- reeve/reevelaw6.SuperSays -/
abbrev f_reevelaw6_SuperSays : FuncId := 12
def rc_reevelaw6_SuperSays : RCode :=
  (.seq
    (.region [⟨some 2, .none, true, 0, .box 54 (.tmp 0)⟩,
      ⟨some 4, .none, true, 4, .assign (.const (.bool false))⟩])
  (.keep [1, 2]
  (.seq
    (.seq
      (.region [⟨some 15, .none, true, 4, .call { callee := .value (.func 34), args := #[], argTypes := #[] }⟩,
        ⟨some 16, .none, true, 4, .unOp .not 4 (.tmp 15)⟩])
    (.keep [1, 2, 16]
    (.cond (.tmp 16)
      (.seq
        (.region [⟨some 4, .none, true, 4, .assign (.const (.bool false))⟩])
      .ret)
      .skip)))
  (.seq
    (.seq
      (.region [⟨some 17, .none, true, 31, .move (.tmp 1)⟩,
        ⟨some 18, .none, true, 3, .call { callee := .builtin .len, args := #[.tmp 17], argTypes := #[31] }⟩,
        ⟨some 19, .none, true, 4, .binOp .gtr 3 (.tmp 18) (.const (.int .i64 40000)) 3⟩])
    (.keep [1, 2, 19]
    (.cond (.tmp 19)
      (.seq
        (.region [⟨some 4, .none, true, 4, .assign (.const (.bool true))⟩])
      .ret)
      .skip)))
  (.seq
    (.region [⟨some 21, .none, true, 31, .move (.tmp 1)⟩,
      ⟨some 22, .none, true, 56, .call { callee := .value (.func 36), args := #[.tmp 21], argTypes := #[31] }⟩,
      ⟨some 20, .none, true, 56, .move (.tmp 22)⟩,
      ⟨some 23, .none, true, 54, .extract (.tmp 20) 0⟩,
      ⟨some 24, .none, true, 4, .extract (.tmp 20) 1⟩,
      ⟨some 5, .none, true, 0, .alloc 54⟩,
      ⟨none, .none, true, 0, .store 54 (.tmp 5) (.tmp 23)⟩,
      ⟨some 6, .none, true, 4, .assign (.tmp 24)⟩])
  (.keep [1, 2, 5, 6]
  (.seq
    (.region [⟨some 26, .none, true, 31, .move (.tmp 1)⟩,
      ⟨some 27, .none, true, 66, .call { callee := .value (.func 41), args := #[.tmp 26], argTypes := #[31] }⟩,
      ⟨some 25, .none, true, 66, .move (.tmp 27)⟩,
      ⟨some 28, .none, true, 65, .extract (.tmp 25) 0⟩,
      ⟨some 29, .none, true, 4, .extract (.tmp 25) 1⟩,
      ⟨some 7, .none, true, 0, .alloc 65⟩,
      ⟨none, .none, true, 0, .store 65 (.tmp 7) (.tmp 28)⟩,
      ⟨some 8, .none, true, 4, .assign (.tmp 29)⟩])
  (.keep [1, 2, 5, 6, 7, 8]
  (.seq
    (.region [⟨some 31, .none, true, 31, .move (.tmp 1)⟩,
      ⟨some 32, .none, true, 61, .call { callee := .value (.func 40), args := #[.tmp 31], argTypes := #[31] }⟩,
      ⟨some 30, .none, true, 61, .move (.tmp 32)⟩,
      ⟨some 33, .none, true, 54, .extract (.tmp 30) 0⟩,
      ⟨some 34, .none, true, 4, .extract (.tmp 30) 1⟩,
      ⟨some 35, .none, true, 4, .extract (.tmp 30) 2⟩,
      ⟨some 9, .none, true, 0, .alloc 54⟩,
      ⟨none, .none, true, 0, .store 54 (.tmp 9) (.tmp 33)⟩,
      ⟨some 10, .none, true, 4, .assign (.tmp 34)⟩,
      ⟨some 11, .none, true, 4, .assign (.tmp 35)⟩])
  (.keep [1, 2, 5, 6, 7, 8, 9, 10, 11]
  (.seq
    (.region [⟨some 37, .none, true, 31, .move (.tmp 1)⟩,
      ⟨some 38, .none, true, 68, .call { callee := .value (.func 42), args := #[.tmp 37], argTypes := #[31] }⟩,
      ⟨some 36, .none, true, 68, .move (.tmp 38)⟩,
      ⟨some 39, .none, true, 65, .extract (.tmp 36) 0⟩,
      ⟨some 40, .none, true, 4, .extract (.tmp 36) 1⟩,
      ⟨some 41, .none, true, 4, .extract (.tmp 36) 2⟩,
      ⟨some 12, .none, true, 0, .alloc 65⟩,
      ⟨none, .none, true, 0, .store 65 (.tmp 12) (.tmp 39)⟩,
      ⟨some 13, .none, true, 4, .assign (.tmp 40)⟩,
      ⟨some 14, .none, true, 4, .assign (.tmp 41)⟩])
  (.keep [2, 5, 6, 7, 8, 9, 10, 11, 12, 13, 14]
  (.seq
    (.regionD [⟨some 42, .none, 54, .load 54 (.tmp 2), 0, []⟩,
      ⟨some 43, .none, 31, .call { callee := .value (.func 35), args := #[.tmp 42], argTypes := #[54] }, 1, []⟩,
      ⟨some 44, .none, 54, .load 54 (.tmp 2), 2, [1]⟩,
      ⟨some 45, .none, 65, .call { callee := .value (.func 44), args := #[.tmp 44], argTypes := #[54] }, 3, []⟩,
      ⟨some 46, .none, 31, .call { callee := .value (.func 43), args := #[.tmp 45], argTypes := #[65] }, 4, []⟩,
      ⟨some 47, .none, 4, .call { callee := .value (.func 37), args := #[.tmp 43, .tmp 46], argTypes := #[31, 31] }, 5, []⟩,
      ⟨some 48, .none, 4, .move (.tmp 47), 6, []⟩,
      ⟨some 49, .some 48 true, 4, .move (.tmp 6), 7, []⟩,
      ⟨some 50, .some 48 true, 4, .move (.tmp 8), 8, []⟩,
      ⟨some 51, .some 48 true, 4, .binOp .eql 4 (.tmp 49) (.tmp 50) 4, 9, []⟩,
      ⟨some 52, .none, 4, .pick (.tmp 48) (.tmp 51) (.const (.bool false)), 10, []⟩,
      ⟨some 53, .none, 4, .move (.tmp 52), 11, []⟩,
      ⟨some 54, .some 53 true, 54, .load 54 (.tmp 5), 12, []⟩,
      ⟨some 55, .some 53 true, 65, .call { callee := .value (.func 44), args := #[.tmp 54], argTypes := #[54] }, 13, []⟩,
      ⟨some 56, .some 53 true, 65, .load 65 (.tmp 7), 14, [13]⟩,
      ⟨some 57, .some 53 true, 4, .binOp .eql 65 (.tmp 55) (.tmp 56) 65, 15, []⟩,
      ⟨some 58, .none, 4, .pick (.tmp 53) (.tmp 57) (.const (.bool false)), 16, []⟩,
      ⟨some 59, .none, 4, .move (.tmp 58), 17, []⟩,
      ⟨some 60, .some 59 true, 54, .load 54 (.tmp 9), 18, []⟩,
      ⟨some 61, .some 59 true, 65, .call { callee := .value (.func 44), args := #[.tmp 60], argTypes := #[54] }, 19, []⟩,
      ⟨some 62, .some 59 true, 65, .load 65 (.tmp 12), 20, [19]⟩,
      ⟨some 63, .some 59 true, 4, .binOp .eql 65 (.tmp 61) (.tmp 62) 65, 21, []⟩,
      ⟨some 64, .none, 4, .pick (.tmp 59) (.tmp 63) (.const (.bool false)), 22, []⟩,
      ⟨some 65, .none, 4, .move (.tmp 64), 23, []⟩,
      ⟨some 66, .some 65 true, 4, .move (.tmp 10), 24, []⟩,
      ⟨some 67, .some 65 true, 4, .move (.tmp 13), 25, []⟩,
      ⟨some 68, .some 65 true, 4, .binOp .eql 4 (.tmp 66) (.tmp 67) 4, 26, []⟩,
      ⟨some 69, .none, 4, .pick (.tmp 65) (.tmp 68) (.const (.bool false)), 27, []⟩,
      ⟨some 70, .none, 4, .move (.tmp 69), 28, []⟩,
      ⟨some 71, .some 70 true, 4, .move (.tmp 11), 29, []⟩,
      ⟨some 72, .some 70 true, 4, .move (.tmp 14), 30, []⟩,
      ⟨some 73, .some 70 true, 4, .binOp .eql 4 (.tmp 71) (.tmp 72) 4, 31, []⟩,
      ⟨some 74, .none, 4, .pick (.tmp 70) (.tmp 73) (.const (.bool false)), 32, []⟩,
      ⟨some 4, .none, 4, .assign (.tmp 74), 33, []⟩])
  .ret)))))))))))))
theorem t_reevelaw6_SuperSays : FnT Try.prog f_reevelaw6_SuperSays rc_reevelaw6_SuperSays [.tmp 4] 2 := ⟨⟨[9], Try.f12, _, Try.func12, rfl, by kernel_rfl, by kernel_rfl, by kernel_rfl, rfl, by decide⟩, by kernel_rfl⟩
/-- reeve/reevelaw6.SuperFinds -/
abbrev f_reevelaw6_SuperFinds : FuncId := 13
def rc_reevelaw6_SuperFindsl0 : RCode :=
  (.seq
    (.seq
      (.region [⟨some 54, .none, true, 3, .move (.tmp 13)⟩,
        ⟨some 55, .none, true, 3, .move (.tmp 11)⟩,
        ⟨some 56, .none, true, 3, .binOp .sub 3 (.tmp 55) (.const (.int .i64 8)) 3⟩,
        ⟨some 57, .none, true, 4, .binOp .lss 3 (.tmp 54) (.tmp 56) 3⟩,
        ⟨some 58, .none, true, 4, .move (.tmp 57)⟩,
        ⟨some 59, .some 58 true, true, 3, .move (.tmp 13)⟩,
        ⟨some 60, .some 58 true, true, 3, .binOp .sub 3 (.tmp 59) (.const (.int .i64 8)) 3⟩,
        ⟨some 61, .some 58 true, true, 31, .move (.tmp 3)⟩,
        ⟨some 62, .some 58 true, true, 3, .call { callee := .builtin .len, args := #[.tmp 61], argTypes := #[31] }⟩,
        ⟨some 63, .some 58 true, true, 4, .binOp .lss 3 (.tmp 60) (.tmp 62) 3⟩,
        ⟨some 64, .none, true, 4, .pick (.tmp 58) (.tmp 63) (.const (.bool false))⟩,
        ⟨some 65, .none, true, 4, .move (.tmp 64)⟩,
        ⟨some 66, .some 65 true, true, 3, .move (.tmp 13)⟩,
        ⟨some 67, .some 65 true, true, 4, .binOp .lss 3 (.tmp 66) (.const (.int .i64 3000)) 3⟩,
        ⟨some 68, .none, true, 4, .pick (.tmp 65) (.tmp 67) (.const (.bool false))⟩])
    (.keep [2, 3, 4, 5, 9, 10, 11, 12, 13, 68]
    (.cond (.tmp 68)
      .skip
      (.exit 0))))
  (.seq
    (.block 1
      (.region [⟨some 71, .none, true, 31, .move (.tmp 12)⟩,
        ⟨some 72, .none, true, 3, .move (.tmp 13)⟩,
        ⟨some 73, .none, true, 31, .move (.tmp 3)⟩,
        ⟨some 74, .none, true, 3, .move (.tmp 13)⟩,
        ⟨some 75, .none, true, 3, .binOp .sub 3 (.tmp 74) (.const (.int .i64 8)) 3⟩,
        ⟨some 76, .none, true, 0, .indexAddr 31 (.tmp 73) (.tmp 75)⟩,
        ⟨some 77, .none, true, 34, .load 34 (.tmp 76)⟩,
        ⟨some 78, .none, true, 0, .indexAddr 31 (.tmp 71) (.tmp 72)⟩,
        ⟨none, .none, true, 0, .store 34 (.tmp 78) (.tmp 77)⟩]))
  (.keep [2, 3, 4, 5, 9, 10, 11, 12, 13]
  (.region [⟨some 69, .none, true, 3, .move (.tmp 13)⟩,
    ⟨some 70, .none, true, 3, .binOp .add 3 (.tmp 69) (.const (.int .i64 1)) 3⟩,
    ⟨some 13, .none, true, 3, .assign (.tmp 70)⟩]))))
def rc_reevelaw6_SuperFindsl1 : RCode :=
  (.seq
    (.seq
      (.region [⟨some 79, .none, true, 3, .move (.tmp 14)⟩,
        ⟨some 80, .none, true, 4, .binOp .lss 3 (.tmp 79) (.const (.int .i64 8)) 3⟩])
    (.keep [2, 4, 5, 9, 10, 11, 12, 14, 80]
    (.cond (.tmp 80)
      .skip
      (.exit 2))))
  (.seq
    (.block 3
      (.seq
        (.seq
          (.region [⟨some 83, .none, true, 3, .move (.tmp 2)⟩,
            ⟨some 84, .none, true, 3, .binOp .and 3 (.tmp 83) (.const (.int .i64 1)) 3⟩,
            ⟨some 85, .none, true, 4, .binOp .eql 3 (.tmp 84) (.const (.int .i64 1)) 3⟩])
        (.keep [2, 4, 5, 9, 10, 11, 12, 14, 85]
        (.cond (.tmp 85)
          (.region [⟨some 86, .none, true, 31, .move (.tmp 12)⟩,
            ⟨some 87, .none, true, 3, .move (.tmp 14)⟩,
            ⟨some 88, .none, true, 31, .move (.tmp 9)⟩,
            ⟨some 89, .none, true, 3, .move (.tmp 14)⟩,
            ⟨some 90, .none, true, 0, .indexAddr 31 (.tmp 88) (.tmp 89)⟩,
            ⟨some 91, .none, true, 34, .load 34 (.tmp 90)⟩,
            ⟨some 92, .none, true, 0, .indexAddr 31 (.tmp 86) (.tmp 87)⟩,
            ⟨none, .none, true, 0, .store 34 (.tmp 92) (.tmp 91)⟩])
          .skip)))
      (.seq
        (.region [⟨some 93, .none, true, 3, .move (.tmp 2)⟩,
          ⟨some 94, .none, true, 3, .binOp .and 3 (.tmp 93) (.const (.int .i64 2)) 3⟩,
          ⟨some 95, .none, true, 4, .binOp .eql 3 (.tmp 94) (.const (.int .i64 2)) 3⟩])
      (.keep [2, 4, 5, 9, 10, 11, 12, 14, 95]
      (.cond (.tmp 95)
        (.region [⟨some 96, .none, true, 31, .move (.tmp 12)⟩,
          ⟨some 97, .none, true, 3, .move (.tmp 11)⟩,
          ⟨some 98, .none, true, 3, .binOp .sub 3 (.tmp 97) (.const (.int .i64 8)) 3⟩,
          ⟨some 99, .none, true, 3, .move (.tmp 14)⟩,
          ⟨some 100, .none, true, 3, .binOp .add 3 (.tmp 98) (.tmp 99) 3⟩,
          ⟨some 101, .none, true, 31, .move (.tmp 10)⟩,
          ⟨some 102, .none, true, 3, .move (.tmp 14)⟩,
          ⟨some 103, .none, true, 0, .indexAddr 31 (.tmp 101) (.tmp 102)⟩,
          ⟨some 104, .none, true, 34, .load 34 (.tmp 103)⟩,
          ⟨some 105, .none, true, 0, .indexAddr 31 (.tmp 96) (.tmp 100)⟩,
          ⟨none, .none, true, 0, .store 34 (.tmp 105) (.tmp 104)⟩])
        .skip)))))
  (.keep [2, 4, 5, 9, 10, 11, 12, 14]
  (.region [⟨some 81, .none, true, 3, .move (.tmp 14)⟩,
    ⟨some 82, .none, true, 3, .binOp .add 3 (.tmp 81) (.const (.int .i64 1)) 3⟩,
    ⟨some 14, .none, true, 3, .assign (.tmp 82)⟩]))))
def rc_reevelaw6_SuperFinds : RCode :=
  (.seq
    (.region [⟨some 4, .none, true, 0, .box 54 (.tmp 0)⟩,
      ⟨some 5, .none, true, 0, .box 54 (.tmp 1)⟩,
      ⟨some 8, .none, true, 4, .assign (.const (.bool false))⟩])
  (.keep [2, 3, 4, 5]
  (.seq
    (.seq
      (.region [⟨some 19, .none, true, 4, .call { callee := .value (.func 34), args := #[], argTypes := #[] }⟩,
        ⟨some 20, .none, true, 4, .unOp .not 4 (.tmp 19)⟩])
    (.keep [2, 3, 4, 5, 20]
    (.cond (.tmp 20)
      (.seq
        (.region [⟨some 8, .none, true, 4, .assign (.const (.bool false))⟩])
      .ret)
      .skip)))
  (.seq
    (.region [⟨some 21, .none, true, 0, .fieldAddr 54 (.tmp 4) 0⟩,
      ⟨some 22, .none, true, 52, .load 52 (.tmp 21)⟩,
      ⟨some 23, .none, true, 0, .fieldAddr 54 (.tmp 5) 0⟩,
      ⟨none, .none, true, 0, .store 52 (.tmp 23) (.tmp 22)⟩])
  (.keep [2, 3, 4, 5]
  (.seq
    (.regionD [⟨some 24, .none, 54, .load 54 (.tmp 4), 0, []⟩,
      ⟨some 25, .none, 31, .call { callee := .value (.func 35), args := #[.tmp 24], argTypes := #[54] }, 1, []⟩,
      ⟨some 26, .none, 54, .load 54 (.tmp 5), 2, [1]⟩,
      ⟨some 27, .none, 31, .call { callee := .value (.func 35), args := #[.tmp 26], argTypes := #[54] }, 3, []⟩,
      ⟨some 9, .none, 31, .assign (.tmp 25), 4, []⟩,
      ⟨some 10, .none, 31, .assign (.tmp 27), 5, []⟩])
  (.keep [2, 3, 4, 5, 9, 10]
  (.seq
    (.region [⟨some 28, .none, true, 0, .fieldAddr 54 (.tmp 4) 0⟩,
      ⟨some 29, .none, true, 52, .load 52 (.tmp 28)⟩,
      ⟨some 30, .none, true, 3, .call { callee := .value (.func 39), args := #[.tmp 29], argTypes := #[52] }⟩,
      ⟨some 31, .none, true, 3, .binOp .mul 3 (.const (.int .i64 8)) (.tmp 30) 3⟩,
      ⟨some 11, .none, true, 3, .assign (.tmp 31)⟩])
  (.keep [2, 3, 4, 5, 9, 10, 11]
  (.seq
    (.seq
      (.region [⟨some 32, .none, true, 31, .move (.tmp 9)⟩,
        ⟨some 33, .none, true, 3, .call { callee := .builtin .len, args := #[.tmp 32], argTypes := #[31] }⟩,
        ⟨some 34, .none, true, 4, .binOp .neq 3 (.tmp 33) (.const (.int .i64 8)) 3⟩,
        ⟨some 35, .none, true, 4, .move (.tmp 34)⟩,
        ⟨some 36, .some 35 false, true, 31, .move (.tmp 10)⟩,
        ⟨some 37, .some 35 false, true, 3, .call { callee := .builtin .len, args := #[.tmp 36], argTypes := #[31] }⟩,
        ⟨some 38, .some 35 false, true, 4, .binOp .neq 3 (.tmp 37) (.const (.int .i64 8)) 3⟩,
        ⟨some 39, .none, true, 4, .pick (.tmp 35) (.const (.bool true)) (.tmp 38)⟩,
        ⟨some 40, .none, true, 4, .move (.tmp 39)⟩,
        ⟨some 41, .some 40 false, true, 3, .move (.tmp 11)⟩,
        ⟨some 42, .some 40 false, true, 4, .binOp .lss 3 (.tmp 41) (.const (.int .i64 16)) 3⟩,
        ⟨some 43, .none, true, 4, .pick (.tmp 40) (.const (.bool true)) (.tmp 42)⟩,
        ⟨some 44, .none, true, 4, .move (.tmp 43)⟩,
        ⟨some 45, .some 44 false, true, 3, .move (.tmp 11)⟩,
        ⟨some 46, .some 44 false, true, 4, .binOp .gtr 3 (.tmp 45) (.const (.int .i64 32768)) 3⟩,
        ⟨some 47, .none, true, 4, .pick (.tmp 44) (.const (.bool true)) (.tmp 46)⟩])
    (.keep [2, 3, 4, 5, 9, 10, 11, 47]
    (.cond (.tmp 47)
      (.seq
        (.region [⟨some 48, .none, true, 0, .fieldAddr 54 (.tmp 4) 0⟩,
          ⟨some 49, .none, true, 52, .load 52 (.tmp 48)⟩,
          ⟨some 50, .none, true, 4, .call { callee := .value (.func 45), args := #[.tmp 49], argTypes := #[52] }⟩,
          ⟨some 51, .none, true, 4, .unOp .not 4 (.tmp 50)⟩,
          ⟨some 8, .none, true, 4, .assign (.tmp 51)⟩])
      .ret)
      .skip)))
  (.seq
    (.region [⟨some 52, .none, true, 3, .move (.tmp 11)⟩,
      ⟨some 53, .none, true, 31, .makeSlice 31 (.tmp 52) (.tmp 52)⟩,
      ⟨some 12, .none, true, 31, .assign (.tmp 53)⟩])
  (.keep [2, 3, 4, 5, 9, 10, 11, 12]
  (.seq
    (.seq
      (.region [⟨some 13, .none, true, 3, .assign (.const (.int .i64 8))⟩])
    (.keep [2, 3, 4, 5, 9, 10, 11, 12, 13]
    (.block 0
      (.loop [2, 3, 4, 5, 9, 10, 11, 12, 13] rc_reevelaw6_SuperFindsl0))))
  (.seq
    (.seq
      (.region [⟨some 14, .none, true, 3, .assign (.const (.int .i64 0))⟩])
    (.keep [2, 4, 5, 9, 10, 11, 12, 14]
    (.block 2
      (.loop [2, 4, 5, 9, 10, 11, 12, 14] rc_reevelaw6_SuperFindsl1))))
  (.seq
    (.region [⟨some 107, .none, true, 31, .move (.tmp 12)⟩,
      ⟨some 108, .none, true, 61, .call { callee := .value (.func 40), args := #[.tmp 107], argTypes := #[31] }⟩,
      ⟨some 106, .none, true, 61, .move (.tmp 108)⟩,
      ⟨some 109, .none, true, 54, .extract (.tmp 106) 0⟩,
      ⟨some 110, .none, true, 4, .extract (.tmp 106) 1⟩,
      ⟨some 111, .none, true, 4, .extract (.tmp 106) 2⟩,
      ⟨some 15, .none, true, 0, .alloc 54⟩,
      ⟨none, .none, true, 0, .store 54 (.tmp 15) (.tmp 109)⟩,
      ⟨some 16, .none, true, 4, .assign (.tmp 110)⟩,
      ⟨some 17, .none, true, 4, .assign (.tmp 111)⟩])
  (.keep [2, 4, 5, 15, 16, 17]
  (.seq
    (.region [⟨some 112, .none, true, 54, .build 54 #[]⟩,
      ⟨some 18, .none, true, 0, .alloc 54⟩,
      ⟨none, .none, true, 0, .store 54 (.tmp 18) (.tmp 112)⟩])
  (.keep [2, 4, 5, 15, 16, 17, 18]
  (.seq
    (.seq
      (.region [⟨some 113, .none, true, 3, .move (.tmp 2)⟩,
        ⟨some 114, .none, true, 3, .binOp .and 3 (.tmp 113) (.const (.int .i64 1)) 3⟩,
        ⟨some 115, .none, true, 4, .binOp .eql 3 (.tmp 114) (.const (.int .i64 1)) 3⟩])
    (.keep [2, 4, 5, 15, 16, 17, 18, 115]
    (.cond (.tmp 115)
      (.region [⟨some 116, .none, true, 54, .load 54 (.tmp 4)⟩,
        ⟨none, .none, true, 0, .store 54 (.tmp 18) (.tmp 116)⟩])
      (.seq
        (.region [⟨some 117, .none, true, 3, .move (.tmp 2)⟩,
          ⟨some 118, .none, true, 3, .binOp .and 3 (.tmp 117) (.const (.int .i64 2)) 3⟩,
          ⟨some 119, .none, true, 4, .binOp .eql 3 (.tmp 118) (.const (.int .i64 2)) 3⟩])
      (.keep [2, 5, 15, 16, 17, 18, 119]
      (.cond (.tmp 119)
        (.region [⟨some 120, .none, true, 54, .load 54 (.tmp 5)⟩,
          ⟨none, .none, true, 0, .store 54 (.tmp 18) (.tmp 120)⟩])
        .skip))))))
  (.seq
    (.region [⟨some 121, .none, true, 54, .load 54 (.tmp 15)⟩,
      ⟨some 122, .none, true, 54, .load 54 (.tmp 18)⟩,
      ⟨some 123, .none, true, 4, .binOp .eql 54 (.tmp 121) (.tmp 122) 54⟩,
      ⟨some 124, .none, true, 4, .move (.tmp 123)⟩,
      ⟨some 125, .some 124 true, true, 4, .move (.tmp 16)⟩,
      ⟨some 126, .some 124 true, true, 3, .move (.tmp 2)⟩,
      ⟨some 127, .some 124 true, true, 3, .binOp .and 3 (.tmp 126) (.const (.int .i64 1)) 3⟩,
      ⟨some 128, .some 124 true, true, 4, .binOp .eql 3 (.tmp 127) (.const (.int .i64 1)) 3⟩,
      ⟨some 129, .some 124 true, true, 4, .binOp .eql 4 (.tmp 125) (.tmp 128) 4⟩,
      ⟨some 130, .none, true, 4, .pick (.tmp 124) (.tmp 129) (.const (.bool false))⟩,
      ⟨some 131, .none, true, 4, .move (.tmp 130)⟩,
      ⟨some 132, .some 131 true, true, 4, .move (.tmp 17)⟩,
      ⟨some 133, .some 131 true, true, 3, .move (.tmp 2)⟩,
      ⟨some 134, .some 131 true, true, 3, .binOp .and 3 (.tmp 133) (.const (.int .i64 2)) 3⟩,
      ⟨some 135, .some 131 true, true, 4, .binOp .eql 3 (.tmp 134) (.const (.int .i64 2)) 3⟩,
      ⟨some 136, .some 131 true, true, 4, .binOp .eql 4 (.tmp 132) (.tmp 135) 4⟩,
      ⟨some 137, .none, true, 4, .pick (.tmp 131) (.tmp 136) (.const (.bool false))⟩,
      ⟨some 8, .none, true, 4, .assign (.tmp 137)⟩])
  .ret))))))))))))))))))))
theorem t_reevelaw6_SuperFinds : FnT Try.prog f_reevelaw6_SuperFinds rc_reevelaw6_SuperFinds [.tmp 8] 4 := ⟨⟨[4], Try.f13, _, Try.func13, rfl, by kernel_rfl, by kernel_rfl, by kernel_rfl, rfl, by decide⟩, by kernel_rfl⟩
/-- reeve/gauss.Of -/
abbrev f_gauss_Of : FuncId := 15
def rc_gauss_Of : RCode :=
  (.seq
    (.region [⟨some 4, .none, true, 23, .assign (.const (.complex .f64 0 0))⟩,
      ⟨some 5, .none, true, 4, .assign (.const (.bool false))⟩])
  (.keep [0, 1]
  (.seq
    (.seq
      (.region [⟨some 6, .none, true, 2, .move (.tmp 0)⟩,
        ⟨some 7, .none, true, 4, .call { callee := .value (.func 46), args := #[.tmp 6], argTypes := #[2] }⟩,
        ⟨some 8, .none, true, 4, .unOp .not 4 (.tmp 7)⟩,
        ⟨some 9, .none, true, 4, .move (.tmp 8)⟩,
        ⟨some 10, .some 9 false, true, 2, .move (.tmp 1)⟩,
        ⟨some 11, .some 9 false, true, 4, .call { callee := .value (.func 46), args := #[.tmp 10], argTypes := #[2] }⟩,
        ⟨some 12, .some 9 false, true, 4, .unOp .not 4 (.tmp 11)⟩,
        ⟨some 13, .none, true, 4, .pick (.tmp 9) (.const (.bool true)) (.tmp 12)⟩])
    (.keep [0, 1, 13]
    (.cond (.tmp 13)
      (.seq
        (.region [⟨some 4, .none, true, 23, .assign (.const (.complex .f64 0 0))⟩,
          ⟨some 5, .none, true, 4, .assign (.const (.bool false))⟩])
      .ret)
      .skip)))
  (.seq
    (.region [⟨some 14, .none, true, 2, .move (.tmp 0)⟩,
      ⟨some 15, .none, true, 48, .convert 2 48 (.tmp 14)⟩,
      ⟨some 16, .none, true, 2, .move (.tmp 1)⟩,
      ⟨some 17, .none, true, 48, .convert 2 48 (.tmp 16)⟩,
      ⟨some 18, .none, true, 23, .call { callee := .builtin .complex, args := #[.tmp 15, .tmp 17], argTypes := #[48, 48] }⟩,
      ⟨some 4, .none, true, 23, .assign (.tmp 18)⟩,
      ⟨some 5, .none, true, 4, .assign (.const (.bool true))⟩])
  .ret))))
theorem t_gauss_Of : FnT Try.prog f_gauss_Of rc_gauss_Of [.tmp 4, .tmp 5] 2 := ⟨⟨[], Try.f15, _, Try.func15, rfl, by kernel_rfl, by kernel_rfl, by kernel_rfl, rfl, by decide⟩, by kernel_rfl⟩
/-- reeve/gauss.Turn -/
abbrev f_gauss_Turn : FuncId := 16
def rc_gauss_Turnl0 : RCode :=
  (.seq
    (.region [⟨some 21, .none, true, 4, .binOp .lss 3 (.tmp 20) (.tmp 19) 3⟩])
  (.keep [5, 6, 19, 20, 21]
  (.seq
    (.cond (.tmp 21)
      .skip
      (.exit 0))
  (.keep [5, 6, 19, 20]
  (.seq
    (.block 1
      (.region [⟨some 22, .none, true, 2, .move (.tmp 6)⟩,
        ⟨some 23, .none, true, 2, .unOp .neg 2 (.tmp 22)⟩,
        ⟨some 24, .none, true, 2, .move (.tmp 5)⟩,
        ⟨some 5, .none, true, 2, .assign (.tmp 23)⟩,
        ⟨some 6, .none, true, 2, .assign (.tmp 24)⟩]))
  (.keep [5, 6, 19, 20]
  (.region [⟨some 25, .none, true, 3, .binOp .add 3 (.tmp 20) (.const (.int .i64 1)) 3⟩,
    ⟨some 20, .none, true, 3, .move (.tmp 25)⟩])))))))
def rc_gauss_Turn : RCode :=
  (.seq
    (.region [⟨some 4, .none, true, 23, .assign (.const (.complex .f64 0 0))⟩])
  (.keep [0, 1]
  (.seq
    (.region [⟨some 9, .none, true, 23, .move (.tmp 0)⟩,
      ⟨some 10, .none, true, 37, .call { callee := .value (.func 21), args := #[.tmp 9], argTypes := #[23] }⟩,
      ⟨some 8, .none, true, 37, .move (.tmp 10)⟩,
      ⟨some 11, .none, true, 2, .extract (.tmp 8) 0⟩,
      ⟨some 12, .none, true, 2, .extract (.tmp 8) 1⟩,
      ⟨some 13, .none, true, 4, .extract (.tmp 8) 2⟩,
      ⟨some 5, .none, true, 2, .assign (.tmp 11)⟩,
      ⟨some 6, .none, true, 2, .assign (.tmp 12)⟩,
      ⟨some 7, .none, true, 4, .assign (.tmp 13)⟩])
  (.keep [1, 5, 6, 7]
  (.seq
    (.seq
      (.region [⟨some 14, .none, true, 4, .move (.tmp 7)⟩,
        ⟨some 15, .none, true, 4, .unOp .not 4 (.tmp 14)⟩])
    (.keep [1, 5, 6, 15]
    (.cond (.tmp 15)
      (.seq
        (.region [⟨some 4, .none, true, 23, .assign (.const (.complex .f64 0 0))⟩])
      .ret)
      .skip)))
  (.seq
    (.seq
      (.region [⟨some 16, .none, true, 3, .move (.tmp 1)⟩,
        ⟨some 17, .none, true, 3, .binOp .rem 3 (.tmp 16) (.const (.int .i64 4)) 3⟩,
        ⟨some 18, .none, true, 3, .binOp .add 3 (.tmp 17) (.const (.int .i64 4)) 3⟩,
        ⟨some 19, .none, true, 3, .binOp .rem 3 (.tmp 18) (.const (.int .i64 4)) 3⟩,
        ⟨some 20, .none, true, 3, .move (.const (.int .i64 0))⟩])
    (.keep [5, 6, 19, 20]
    (.block 0
      (.loop [5, 6, 19, 20] rc_gauss_Turnl0))))
  (.seq
    (.region [⟨some 27, .none, true, 2, .move (.tmp 5)⟩,
      ⟨some 28, .none, true, 2, .move (.tmp 6)⟩,
      ⟨some 29, .none, true, 24, .call { callee := .value (.func 15), args := #[.tmp 27, .tmp 28], argTypes := #[2, 2] }⟩,
      ⟨some 26, .none, true, 24, .move (.tmp 29)⟩,
      ⟨some 30, .none, true, 23, .extract (.tmp 26) 0⟩,
      ⟨some 31, .none, true, 4, .extract (.tmp 26) 1⟩,
      ⟨some 0, .none, true, 23, .assign (.tmp 30)⟩])
  (.keep [0]
  (.seq
    (.region [⟨some 32, .none, true, 23, .move (.tmp 0)⟩,
      ⟨some 4, .none, true, 23, .assign (.tmp 32)⟩])
  .ret)))))))))
theorem t_gauss_Turn : FnT Try.prog f_gauss_Turn rc_gauss_Turn [.tmp 4] 2 := ⟨⟨[], Try.f16, _, Try.func16, rfl, by kernel_rfl, by kernel_rfl, by kernel_rfl, rfl, by decide⟩, by kernel_rfl⟩
/-- reeve/gauss.Spin -/
abbrev f_gauss_Spin : FuncId := 20
def rc_gauss_Spinl0 : RCode :=
  (.seq
    (.region [⟨some 12, .none, true, 0, .binOp .lss 3 (.tmp 11) (.tmp 10) 3⟩])
  (.keep [3, 9, 10, 11, 12]
  (.seq
    (.cond (.tmp 12)
      .skip
      (.exit 0))
  (.keep [3, 9, 10, 11]
  (.seq
    (.block 1
      (.seq
        (.region [⟨some 13, .none, true, 0, .indexAddr 31 (.tmp 9) (.tmp 11)⟩,
          ⟨some 14, .none, true, 34, .load 34 (.tmp 13)⟩,
          ⟨some 5, .none, true, 34, .assign (.tmp 14)⟩])
      (.keep [3, 5, 9, 10, 11]
      (.seq
        (.region [⟨some 16, .none, true, 23, .move (.tmp 3)⟩,
          ⟨some 17, .none, true, 23, .call { callee := .value (.func 16), args := #[.tmp 16, .const (.int .i64 1)], argTypes := #[23, 3] }⟩,
          ⟨some 18, .none, true, 37, .call { callee := .value (.func 21), args := #[.tmp 17], argTypes := #[23] }⟩,
          ⟨some 15, .none, true, 37, .move (.tmp 18)⟩,
          ⟨some 19, .none, true, 2, .extract (.tmp 15) 0⟩,
          ⟨some 20, .none, true, 2, .extract (.tmp 15) 1⟩,
          ⟨some 21, .none, true, 4, .extract (.tmp 15) 2⟩,
          ⟨some 6, .none, true, 2, .assign (.tmp 19)⟩,
          ⟨some 7, .none, true, 2, .assign (.tmp 20)⟩,
          ⟨some 8, .none, true, 4, .assign (.tmp 21)⟩])
      (.keep [5, 6, 7, 9, 10, 11]
      (.seq
        (.region [⟨some 22, .none, true, 2, .move (.tmp 6)⟩,
          ⟨some 23, .none, true, 34, .move (.tmp 5)⟩,
          ⟨some 24, .none, true, 32, .convert 34 32 (.tmp 23)⟩,
          ⟨some 25, .none, true, 2, .convert 32 2 (.tmp 24)⟩,
          ⟨some 26, .none, true, 34, .move (.tmp 5)⟩,
          ⟨some 27, .none, true, 34, .binOp .shr 34 (.tmp 26) (.const (.int .u64 32)) 33⟩,
          ⟨some 28, .none, true, 32, .convert 34 32 (.tmp 27)⟩,
          ⟨some 29, .none, true, 2, .convert 32 2 (.tmp 28)⟩,
          ⟨some 30, .none, true, 2, .binOp .sub 2 (.tmp 25) (.tmp 29) 2⟩,
          ⟨some 31, .none, true, 2, .binOp .add 2 (.tmp 22) (.tmp 30) 2⟩,
          ⟨some 6, .none, true, 2, .assign (.tmp 31)⟩])
      (.keep [5, 6, 7, 9, 10, 11]
      (.seq
        (.region [⟨some 32, .none, true, 2, .move (.tmp 7)⟩,
          ⟨some 33, .none, true, 34, .move (.tmp 5)⟩,
          ⟨some 34, .none, true, 34, .binOp .shr 34 (.tmp 33) (.const (.int .u64 16)) 33⟩,
          ⟨some 35, .none, true, 32, .convert 34 32 (.tmp 34)⟩,
          ⟨some 36, .none, true, 2, .convert 32 2 (.tmp 35)⟩,
          ⟨some 37, .none, true, 34, .move (.tmp 5)⟩,
          ⟨some 38, .none, true, 34, .binOp .shr 34 (.tmp 37) (.const (.int .u64 48)) 33⟩,
          ⟨some 39, .none, true, 32, .convert 34 32 (.tmp 38)⟩,
          ⟨some 40, .none, true, 2, .convert 32 2 (.tmp 39)⟩,
          ⟨some 41, .none, true, 2, .binOp .sub 2 (.tmp 36) (.tmp 40) 2⟩,
          ⟨some 42, .none, true, 2, .binOp .add 2 (.tmp 32) (.tmp 41) 2⟩,
          ⟨some 7, .none, true, 2, .assign (.tmp 42)⟩])
      (.keep [6, 7, 9, 10, 11]
      (.region [⟨some 44, .none, true, 2, .move (.tmp 6)⟩,
        ⟨some 45, .none, true, 2, .call { callee := .value (.func 48), args := #[.tmp 44], argTypes := #[2] }⟩,
        ⟨some 46, .none, true, 2, .move (.tmp 7)⟩,
        ⟨some 47, .none, true, 2, .call { callee := .value (.func 48), args := #[.tmp 46], argTypes := #[2] }⟩,
        ⟨some 48, .none, true, 24, .call { callee := .value (.func 15), args := #[.tmp 45, .tmp 47], argTypes := #[2, 2] }⟩,
        ⟨some 43, .none, true, 24, .move (.tmp 48)⟩,
        ⟨some 49, .none, true, 23, .extract (.tmp 43) 0⟩,
        ⟨some 50, .none, true, 4, .extract (.tmp 43) 1⟩,
        ⟨some 3, .none, true, 23, .assign (.tmp 49)⟩]))))))))))
  (.keep [3, 9, 10, 11]
  (.region [⟨some 51, .none, true, 3, .binOp .add 3 (.tmp 11) (.const (.int .i64 1)) 3⟩,
    ⟨some 11, .none, true, 3, .move (.tmp 51)⟩])))))))
def rc_gauss_Spin : RCode :=
  (.seq
    (.region [⟨some 2, .none, true, 23, .assign (.const (.complex .f64 0 0))⟩])
  (.keep [0]
  (.seq
    (.region [⟨some 3, .none, true, 23, .assign (.const (.complex .f64 0 0))⟩])
  (.keep [0, 3]
  (.seq
    (.seq
      (.region [⟨some 9, .none, true, 31, .move (.tmp 0)⟩,
        ⟨some 10, .none, true, 3, .call { callee := .builtin .len, args := #[.tmp 9], argTypes := #[31] }⟩,
        ⟨some 11, .none, true, 3, .move (.const (.int .i64 0))⟩])
    (.keep [3, 9, 10, 11]
    (.block 0
      (.loop [3, 9, 10, 11] rc_gauss_Spinl0))))
  (.seq
    (.region [⟨some 52, .none, true, 23, .move (.tmp 3)⟩,
      ⟨some 2, .none, true, 23, .assign (.tmp 52)⟩])
  .ret))))))
theorem t_gauss_Spin : FnT Try.prog f_gauss_Spin rc_gauss_Spin [.tmp 2] 1 := ⟨⟨[], Try.f20, _, Try.func20, rfl, by kernel_rfl, by kernel_rfl, by kernel_rfl, rfl, by decide⟩, by kernel_rfl⟩
/-- reeve/gauss.Parts -/
abbrev f_gauss_Parts : FuncId := 21
def rc_gauss_Parts : RCode :=
  (.seq
    (.region [⟨some 2, .none, true, 2, .assign (.const (.int .i64 0))⟩,
      ⟨some 3, .none, true, 2, .assign (.const (.int .i64 0))⟩,
      ⟨some 4, .none, true, 4, .assign (.const (.bool false))⟩])
  (.keep [0]
  (.seq
    (.region [⟨some 8, .none, true, 23, .move (.tmp 0)⟩,
      ⟨some 9, .none, true, 48, .call { callee := .builtin .real, args := #[.tmp 8], argTypes := #[23] }⟩,
      ⟨some 10, .none, true, 77, .call { callee := .value (.func 49), args := #[.tmp 9], argTypes := #[48] }⟩,
      ⟨some 7, .none, true, 77, .move (.tmp 10)⟩,
      ⟨some 11, .none, true, 2, .extract (.tmp 7) 0⟩,
      ⟨some 12, .none, true, 4, .extract (.tmp 7) 1⟩,
      ⟨some 2, .none, true, 2, .assign (.tmp 11)⟩,
      ⟨some 5, .none, true, 4, .assign (.tmp 12)⟩])
  (.keep [0, 2, 5]
  (.seq
    (.region [⟨some 14, .none, true, 23, .move (.tmp 0)⟩,
      ⟨some 15, .none, true, 48, .call { callee := .builtin .imag, args := #[.tmp 14], argTypes := #[23] }⟩,
      ⟨some 16, .none, true, 77, .call { callee := .value (.func 49), args := #[.tmp 15], argTypes := #[48] }⟩,
      ⟨some 13, .none, true, 77, .move (.tmp 16)⟩,
      ⟨some 17, .none, true, 2, .extract (.tmp 13) 0⟩,
      ⟨some 18, .none, true, 4, .extract (.tmp 13) 1⟩,
      ⟨some 3, .none, true, 2, .assign (.tmp 17)⟩,
      ⟨some 6, .none, true, 4, .assign (.tmp 18)⟩])
  (.keep [2, 3, 5, 6]
  (.seq
    (.seq
      (.region [⟨some 19, .none, true, 4, .move (.tmp 5)⟩,
        ⟨some 20, .none, true, 4, .unOp .not 4 (.tmp 19)⟩,
        ⟨some 21, .none, true, 4, .move (.tmp 20)⟩,
        ⟨some 22, .some 21 false, true, 4, .move (.tmp 6)⟩,
        ⟨some 23, .some 21 false, true, 4, .unOp .not 4 (.tmp 22)⟩,
        ⟨some 24, .none, true, 4, .pick (.tmp 21) (.const (.bool true)) (.tmp 23)⟩])
    (.keep [2, 3, 24]
    (.cond (.tmp 24)
      (.seq
        (.region [⟨some 2, .none, true, 2, .assign (.const (.int .i64 0))⟩,
          ⟨some 3, .none, true, 2, .assign (.const (.int .i64 0))⟩,
          ⟨some 4, .none, true, 4, .assign (.const (.bool false))⟩])
      .ret)
      .skip)))
  (.seq
    (.region [⟨some 25, .none, true, 2, .move (.tmp 2)⟩,
      ⟨some 26, .none, true, 2, .move (.tmp 3)⟩,
      ⟨some 2, .none, true, 2, .assign (.tmp 25)⟩,
      ⟨some 3, .none, true, 2, .assign (.tmp 26)⟩,
      ⟨some 4, .none, true, 4, .assign (.const (.bool true))⟩])
  .ret))))))))
theorem t_gauss_Parts : FnT Try.prog f_gauss_Parts rc_gauss_Parts [.tmp 2, .tmp 3, .tmp 4] 1 := ⟨⟨[], Try.f21, _, Try.func21, rfl, by kernel_rfl, by kernel_rfl, by kernel_rfl, rfl, by decide⟩, by kernel_rfl⟩
/-- reeve/gauss.Word -/
abbrev f_gauss_Word : FuncId := 23
def rc_gauss_Word : RCode :=
  (.seq
    (.region [⟨some 2, .none, true, 34, .assign (.const (.int .u64 0))⟩,
      ⟨some 3, .none, true, 4, .assign (.const (.bool false))⟩])
  (.keep [0]
  (.seq
    (.region [⟨some 8, .none, true, 23, .move (.tmp 0)⟩,
      ⟨some 9, .none, true, 37, .call { callee := .value (.func 21), args := #[.tmp 8], argTypes := #[23] }⟩,
      ⟨some 7, .none, true, 37, .move (.tmp 9)⟩,
      ⟨some 10, .none, true, 2, .extract (.tmp 7) 0⟩,
      ⟨some 11, .none, true, 2, .extract (.tmp 7) 1⟩,
      ⟨some 12, .none, true, 4, .extract (.tmp 7) 2⟩,
      ⟨some 4, .none, true, 2, .assign (.tmp 10)⟩,
      ⟨some 5, .none, true, 2, .assign (.tmp 11)⟩,
      ⟨some 6, .none, true, 4, .assign (.tmp 12)⟩])
  (.keep [4, 5, 6]
  (.seq
    (.seq
      (.region [⟨some 13, .none, true, 4, .move (.tmp 6)⟩,
        ⟨some 14, .none, true, 4, .unOp .not 4 (.tmp 13)⟩,
        ⟨some 15, .none, true, 4, .move (.tmp 14)⟩,
        ⟨some 16, .some 15 false, true, 2, .move (.tmp 4)⟩,
        ⟨some 17, .some 15 false, true, 4, .binOp .lss 2 (.tmp 16) (.const (.int .i64 0)) 2⟩,
        ⟨some 18, .none, true, 4, .pick (.tmp 15) (.const (.bool true)) (.tmp 17)⟩,
        ⟨some 19, .none, true, 4, .move (.tmp 18)⟩,
        ⟨some 20, .some 19 false, true, 2, .move (.tmp 4)⟩,
        ⟨some 21, .some 19 false, true, 4, .binOp .gtr 2 (.tmp 20) (.const (.int .i64 4294967295)) 2⟩,
        ⟨some 22, .none, true, 4, .pick (.tmp 19) (.const (.bool true)) (.tmp 21)⟩,
        ⟨some 23, .none, true, 4, .move (.tmp 22)⟩,
        ⟨some 24, .some 23 false, true, 2, .move (.tmp 5)⟩,
        ⟨some 25, .some 23 false, true, 4, .binOp .lss 2 (.tmp 24) (.const (.int .i64 0)) 2⟩,
        ⟨some 26, .none, true, 4, .pick (.tmp 23) (.const (.bool true)) (.tmp 25)⟩,
        ⟨some 27, .none, true, 4, .move (.tmp 26)⟩,
        ⟨some 28, .some 27 false, true, 2, .move (.tmp 5)⟩,
        ⟨some 29, .some 27 false, true, 4, .binOp .gtr 2 (.tmp 28) (.const (.int .i64 4294967295)) 2⟩,
        ⟨some 30, .none, true, 4, .pick (.tmp 27) (.const (.bool true)) (.tmp 29)⟩])
    (.keep [4, 5, 30]
    (.cond (.tmp 30)
      (.seq
        (.region [⟨some 2, .none, true, 34, .assign (.const (.int .u64 0))⟩,
          ⟨some 3, .none, true, 4, .assign (.const (.bool false))⟩])
      .ret)
      .skip)))
  (.seq
    (.region [⟨some 31, .none, true, 2, .move (.tmp 5)⟩,
      ⟨some 32, .none, true, 34, .convert 2 34 (.tmp 31)⟩,
      ⟨some 33, .none, true, 34, .binOp .shl 34 (.tmp 32) (.const (.int .u64 32)) 33⟩,
      ⟨some 34, .none, true, 2, .move (.tmp 4)⟩,
      ⟨some 35, .none, true, 34, .convert 2 34 (.tmp 34)⟩,
      ⟨some 36, .none, true, 34, .binOp .or 34 (.tmp 33) (.tmp 35) 34⟩,
      ⟨some 2, .none, true, 34, .assign (.tmp 36)⟩,
      ⟨some 3, .none, true, 4, .assign (.const (.bool true))⟩])
  .ret))))))
theorem t_gauss_Word : FnT Try.prog f_gauss_Word rc_gauss_Word [.tmp 2, .tmp 3] 1 := ⟨⟨[], Try.f23, _, Try.func23, rfl, by kernel_rfl, by kernel_rfl, by kernel_rfl, rfl, by decide⟩, by kernel_rfl⟩
/-- reeve/reevelaw6.awake -/
abbrev f_reevelaw6_awake : FuncId := 34
def rc_reevelaw6_awake : RCode :=
  (.seq
    (.region [⟨some 0, .none, true, 4, .assign (.const (.bool false))⟩])
  (.keep []
  (.seq
    (.region [⟨some 5, .none, true, 52, .call { callee := .value (.func 38), args := #[], argTypes := #[] }⟩,
      ⟨some 6, .none, true, 54, .build 54 #[(0, .tmp 5), (1, .const (.int .u64 7))]⟩,
      ⟨some 1, .none, true, 0, .alloc 54⟩,
      ⟨none, .none, true, 0, .store 54 (.tmp 1) (.tmp 6)⟩])
  (.keep [1]
  (.seq
    (.region [⟨some 7, .none, true, 54, .load 54 (.tmp 1)⟩,
      ⟨some 8, .none, true, 31, .call { callee := .value (.func 35), args := #[.tmp 7], argTypes := #[54] }⟩,
      ⟨some 2, .none, true, 31, .assign (.tmp 8)⟩])
  (.keep [1, 2]
  (.seq
    (.region [⟨some 10, .none, true, 31, .move (.tmp 2)⟩,
      ⟨some 11, .none, true, 56, .call { callee := .value (.func 36), args := #[.tmp 10], argTypes := #[31] }⟩,
      ⟨some 9, .none, true, 56, .move (.tmp 11)⟩,
      ⟨some 12, .none, true, 54, .extract (.tmp 9) 0⟩,
      ⟨some 13, .none, true, 4, .extract (.tmp 9) 1⟩,
      ⟨some 3, .none, true, 0, .alloc 54⟩,
      ⟨none, .none, true, 0, .store 54 (.tmp 3) (.tmp 12)⟩,
      ⟨some 4, .none, true, 4, .assign (.tmp 13)⟩])
  (.keep [1, 2, 3, 4]
  (.seq
    (.region [⟨some 14, .none, true, 31, .move (.tmp 2)⟩,
      ⟨some 15, .none, true, 3, .call { callee := .builtin .len, args := #[.tmp 14], argTypes := #[31] }⟩,
      ⟨some 16, .none, true, 4, .binOp .eql 3 (.tmp 15) (.const (.int .i64 8)) 3⟩,
      ⟨some 17, .none, true, 4, .move (.tmp 16)⟩,
      ⟨some 18, .some 17 true, true, 31, .move (.tmp 2)⟩,
      ⟨some 19, .some 17 true, true, 0, .indexAddr 31 (.tmp 18) (.const (.int .i64 0))⟩,
      ⟨some 20, .some 17 true, true, 34, .load 34 (.tmp 19)⟩,
      ⟨some 21, .some 17 true, true, 4, .binOp .eql 34 (.tmp 20) (.const (.int .u64 8243106252149764145)) 34⟩,
      ⟨some 22, .none, true, 4, .pick (.tmp 17) (.tmp 21) (.const (.bool false))⟩,
      ⟨some 23, .none, true, 4, .move (.tmp 22)⟩,
      ⟨some 24, .some 23 true, true, 31, .move (.tmp 2)⟩,
      ⟨some 25, .some 23 true, true, 0, .indexAddr 31 (.tmp 24) (.const (.int .i64 4))⟩,
      ⟨some 26, .some 23 true, true, 34, .load 34 (.tmp 25)⟩,
      ⟨some 27, .some 23 true, true, 4, .binOp .eql 34 (.tmp 26) (.const (.int .u64 7)) 34⟩,
      ⟨some 28, .none, true, 4, .pick (.tmp 23) (.tmp 27) (.const (.bool false))⟩,
      ⟨some 29, .none, true, 4, .move (.tmp 28)⟩,
      ⟨some 30, .some 29 true, true, 4, .move (.tmp 4)⟩,
      ⟨some 31, .none, true, 4, .pick (.tmp 29) (.tmp 30) (.const (.bool false))⟩,
      ⟨some 32, .none, true, 4, .move (.tmp 31)⟩,
      ⟨some 33, .some 32 true, true, 54, .load 54 (.tmp 3)⟩,
      ⟨some 34, .some 32 true, true, 54, .load 54 (.tmp 1)⟩,
      ⟨some 35, .some 32 true, true, 4, .binOp .eql 54 (.tmp 33) (.tmp 34) 54⟩,
      ⟨some 36, .none, true, 4, .pick (.tmp 32) (.tmp 35) (.const (.bool false))⟩,
      ⟨some 0, .none, true, 4, .assign (.tmp 36)⟩])
  .ret)))))))))
theorem t_reevelaw6_awake : FnT Try.prog f_reevelaw6_awake rc_reevelaw6_awake [.tmp 0] 0 := ⟨⟨[], Try.f34, _, Try.func34, rfl, by kernel_rfl, by kernel_rfl, by kernel_rfl, rfl, by decide⟩, by kernel_rfl⟩
/-- reeve/super.Put -/
abbrev f_super_Put : FuncId := 35
def rc_super_Put : RCode :=
  (.seq
    (.region [⟨some 1, .none, true, 0, .box 54 (.tmp 0)⟩,
      ⟨some 2, .none, true, 31, .assign (.const (.slice none 0 0))⟩])
  (.keep [1]
  (.seq
    (.seq
      (.region [⟨some 6, .none, true, 0, .fieldAddr 54 (.tmp 1) 0⟩,
        ⟨some 7, .none, true, 52, .load 52 (.tmp 6)⟩,
        ⟨some 8, .none, true, 4, .call { callee := .value (.func 45), args := #[.tmp 7], argTypes := #[52] }⟩,
        ⟨some 9, .none, true, 4, .unOp .not 4 (.tmp 8)⟩])
    (.keep [1, 9]
    (.cond (.tmp 9)
      (.seq
        (.region [⟨some 2, .none, true, 31, .assign (.const (.slice none 0 0))⟩])
      .ret)
      .skip)))
  (.seq
    (.region [⟨some 10, .none, true, 0, .fieldAddr 54 (.tmp 1) 0⟩,
      ⟨some 11, .none, true, 0, .fieldAddr 52 (.tmp 10) 0⟩,
      ⟨some 12, .none, true, 3, .load 3 (.tmp 11)⟩,
      ⟨some 13, .none, true, 34, .convert 3 34 (.tmp 12)⟩,
      ⟨some 14, .none, true, 0, .fieldAddr 54 (.tmp 1) 0⟩,
      ⟨some 15, .none, true, 0, .fieldAddr 52 (.tmp 14) 1⟩,
      ⟨some 16, .none, true, 3, .load 3 (.tmp 15)⟩,
      ⟨some 17, .none, true, 34, .convert 3 34 (.tmp 16)⟩,
      ⟨some 18, .none, true, 0, .fieldAddr 54 (.tmp 1) 0⟩,
      ⟨some 19, .none, true, 0, .fieldAddr 52 (.tmp 18) 2⟩,
      ⟨some 20, .none, true, 3, .load 3 (.tmp 19)⟩,
      ⟨some 21, .none, true, 34, .convert 3 34 (.tmp 20)⟩,
      ⟨some 22, .none, true, 0, .fieldAddr 54 (.tmp 1) 1⟩,
      ⟨some 23, .none, true, 34, .load 34 (.tmp 22)⟩,
      ⟨some 24, .none, true, 31, .buildSlice 31 7 #[(0, .const (.int .u64 8243106252149764145)), (1, .tmp 13), (2, .tmp 17), (3, .tmp 21), (4, .tmp 23), (5, .const (.int .u64 0)), (6, .const (.int .u64 0))]⟩,
      ⟨some 3, .none, true, 31, .assign (.tmp 24)⟩])
  (.keep [3]
  (.seq
    (.region [⟨some 26, .none, true, 31, .move (.tmp 3)⟩,
      ⟨some 27, .none, true, 23, .call { callee := .value (.func 20), args := #[.tmp 26], argTypes := #[31] }⟩,
      ⟨some 28, .none, true, 42, .call { callee := .value (.func 23), args := #[.tmp 27], argTypes := #[23] }⟩,
      ⟨some 25, .none, true, 42, .move (.tmp 28)⟩,
      ⟨some 29, .none, true, 34, .extract (.tmp 25) 0⟩,
      ⟨some 30, .none, true, 4, .extract (.tmp 25) 1⟩,
      ⟨some 4, .none, true, 34, .assign (.tmp 29)⟩,
      ⟨some 5, .none, true, 4, .assign (.tmp 30)⟩])
  (.keep [3, 4]
  (.seq
    (.region [⟨some 31, .none, true, 31, .move (.tmp 3)⟩,
      ⟨some 32, .none, true, 34, .move (.tmp 4)⟩,
      ⟨some 33, .none, true, 31, .buildSlice 31 1 #[(0, .tmp 32)]⟩,
      ⟨some 34, .none, true, 31, .call { callee := .builtin .append, args := #[.tmp 31, .tmp 33], argTypes := #[31, 31] }⟩,
      ⟨some 2, .none, true, 31, .assign (.tmp 34)⟩])
  .ret))))))))
theorem t_super_Put : FnT Try.prog f_super_Put rc_super_Put [.tmp 2] 1 := ⟨⟨[], Try.f35, _, Try.func35, rfl, by kernel_rfl, by kernel_rfl, by kernel_rfl, rfl, by decide⟩, by kernel_rfl⟩
/-- reeve/super.Get -/
abbrev f_super_Get : FuncId := 36
def rc_super_Get : RCode :=
  (.seq
    (.region [⟨some 2, .none, true, 0, .alloc 54⟩,
      ⟨some 3, .none, true, 4, .assign (.const (.bool false))⟩])
  (.keep [0, 2]
  (.seq
    (.seq
      (.region [⟨some 5, .none, true, 31, .move (.tmp 0)⟩,
        ⟨some 6, .none, true, 3, .call { callee := .builtin .len, args := #[.tmp 5], argTypes := #[31] }⟩,
        ⟨some 7, .none, true, 4, .binOp .neq 3 (.tmp 6) (.const (.int .i64 8)) 3⟩,
        ⟨some 8, .none, true, 4, .move (.tmp 7)⟩,
        ⟨some 9, .some 8 false, false, 31, .move (.tmp 0)⟩,
        ⟨some 10, .some 8 false, false, 0, .indexAddr 31 (.tmp 9) (.const (.int .i64 1))⟩,
        ⟨some 11, .some 8 false, false, 34, .load 34 (.tmp 10)⟩,
        ⟨some 12, .some 8 false, false, 31, .move (.tmp 0)⟩,
        ⟨some 13, .some 8 false, false, 0, .indexAddr 31 (.tmp 12) (.const (.int .i64 2))⟩,
        ⟨some 14, .some 8 false, false, 34, .load 34 (.tmp 13)⟩,
        ⟨some 15, .some 8 false, false, 31, .move (.tmp 0)⟩,
        ⟨some 16, .some 8 false, false, 0, .indexAddr 31 (.tmp 15) (.const (.int .i64 3))⟩,
        ⟨some 17, .some 8 false, false, 34, .load 34 (.tmp 16)⟩,
        ⟨some 18, .some 8 false, true, 34, .call { callee := .builtin .max, args := #[.tmp 11, .tmp 14, .tmp 17], argTypes := #[34, 34, 34] }⟩,
        ⟨some 19, .some 8 false, true, 4, .binOp .gtr 34 (.tmp 18) (.const (.int .u64 4096)) 34⟩,
        ⟨some 20, .none, true, 4, .pick (.tmp 8) (.const (.bool true)) (.tmp 19)⟩])
    (.keep [0, 2, 20]
    (.cond (.tmp 20)
      (.seq
        (.region [⟨some 21, .none, true, 54, .build 54 #[]⟩,
          ⟨none, .none, true, 0, .store 54 (.tmp 2) (.tmp 21)⟩,
          ⟨some 3, .none, true, 4, .assign (.const (.bool false))⟩])
      .ret)
      .skip)))
  (.seq
    (.regionD [⟨some 22, .none, 31, .move (.tmp 0), 0, []⟩,
      ⟨some 23, .none, 0, .indexAddr 31 (.tmp 22) (.const (.int .i64 1)), 1, []⟩,
      ⟨some 24, .none, 34, .load 34 (.tmp 23), 2, []⟩,
      ⟨some 25, .none, 3, .convert 34 3 (.tmp 24), 3, []⟩,
      ⟨some 26, .none, 31, .move (.tmp 0), 4, []⟩,
      ⟨some 27, .none, 0, .indexAddr 31 (.tmp 26) (.const (.int .i64 2)), 5, []⟩,
      ⟨some 28, .none, 34, .load 34 (.tmp 27), 6, []⟩,
      ⟨some 29, .none, 3, .convert 34 3 (.tmp 28), 7, []⟩,
      ⟨some 30, .none, 31, .move (.tmp 0), 8, []⟩,
      ⟨some 31, .none, 0, .indexAddr 31 (.tmp 30) (.const (.int .i64 3)), 9, []⟩,
      ⟨some 32, .none, 34, .load 34 (.tmp 31), 10, []⟩,
      ⟨some 33, .none, 3, .convert 34 3 (.tmp 32), 11, []⟩,
      ⟨some 34, .none, 52, .build 52 #[(0, .tmp 25), (1, .tmp 29), (2, .tmp 33)], 12, []⟩,
      ⟨some 35, .none, 31, .move (.tmp 0), 13, []⟩,
      ⟨some 36, .none, 0, .indexAddr 31 (.tmp 35) (.const (.int .i64 4)), 14, []⟩,
      ⟨some 37, .none, 34, .load 34 (.tmp 36), 15, []⟩,
      ⟨some 38, .none, 54, .build 54 #[(0, .tmp 34), (1, .tmp 37)], 16, []⟩,
      ⟨some 4, .none, 0, .alloc 54, 17, [2, 6, 10, 15]⟩,
      ⟨none, .none, 0, .store 54 (.tmp 4) (.tmp 38), 18, []⟩])
  (.keep [0, 2, 4]
  (.seq
    (.seq
      (.region [⟨some 39, .none, true, 54, .load 54 (.tmp 4)⟩,
        ⟨some 40, .none, true, 31, .call { callee := .value (.func 35), args := #[.tmp 39], argTypes := #[54] }⟩,
        ⟨some 41, .none, true, 31, .move (.tmp 0)⟩,
        ⟨some 42, .none, true, 4, .call { callee := .value (.func 53), args := #[.tmp 40, .tmp 41], argTypes := #[31, 31] }⟩,
        ⟨some 43, .none, true, 4, .unOp .not 4 (.tmp 42)⟩])
    (.keep [2, 4, 43]
    (.cond (.tmp 43)
      (.seq
        (.region [⟨some 44, .none, true, 54, .build 54 #[]⟩,
          ⟨none, .none, true, 0, .store 54 (.tmp 2) (.tmp 44)⟩,
          ⟨some 3, .none, true, 4, .assign (.const (.bool false))⟩])
      .ret)
      .skip)))
  (.seq
    (.region [⟨some 45, .none, true, 54, .load 54 (.tmp 4)⟩,
      ⟨none, .none, true, 0, .store 54 (.tmp 2) (.tmp 45)⟩,
      ⟨some 3, .none, true, 4, .assign (.const (.bool true))⟩])
  .ret)))))))
theorem t_super_Get : FnT Try.prog f_super_Get rc_super_Get [.cell 2 54, .tmp 3] 1 := ⟨⟨[3], Try.f36, _, Try.func36, rfl, by kernel_rfl, by kernel_rfl, by kernel_rfl, rfl, by decide⟩, by kernel_rfl⟩
/-- reeve/reevelaw6.words -/
abbrev f_reevelaw6_words : FuncId := 37
def rc_reevelaw6_wordsl0 : RCode :=
  (.seq
    (.seq
      (.region [⟨some 11, .none, true, 3, .move (.tmp 5)⟩,
        ⟨some 12, .none, true, 31, .move (.tmp 0)⟩,
        ⟨some 13, .none, true, 3, .call { callee := .builtin .len, args := #[.tmp 12], argTypes := #[31] }⟩,
        ⟨some 14, .none, true, 4, .binOp .lss 3 (.tmp 11) (.tmp 13) 3⟩])
    (.keep [0, 1, 5, 14]
    (.cond (.tmp 14)
      .skip
      (.exit 0))))
  (.seq
    (.block 1
      (.seq
        (.region [⟨some 17, .none, false, 31, .move (.tmp 0)⟩,
          ⟨some 18, .none, false, 3, .move (.tmp 5)⟩,
          ⟨some 19, .none, false, 0, .indexAddr 31 (.tmp 17) (.tmp 18)⟩,
          ⟨some 20, .none, false, 34, .load 34 (.tmp 19)⟩,
          ⟨some 21, .none, false, 31, .move (.tmp 1)⟩,
          ⟨some 22, .none, false, 3, .move (.tmp 5)⟩,
          ⟨some 23, .none, false, 0, .indexAddr 31 (.tmp 21) (.tmp 22)⟩,
          ⟨some 24, .none, false, 34, .load 34 (.tmp 23)⟩,
          ⟨some 25, .none, true, 4, .binOp .neq 34 (.tmp 20) (.tmp 24) 34⟩])
      (.keep [0, 1, 5, 25]
      (.cond (.tmp 25)
        (.seq
          (.region [⟨some 4, .none, true, 4, .assign (.const (.bool false))⟩])
        .ret)
        .skip))))
  (.keep [0, 1, 5]
  (.region [⟨some 15, .none, true, 3, .move (.tmp 5)⟩,
    ⟨some 16, .none, true, 3, .binOp .add 3 (.tmp 15) (.const (.int .i64 1)) 3⟩,
    ⟨some 5, .none, true, 3, .assign (.tmp 16)⟩]))))
def rc_reevelaw6_words : RCode :=
  (.seq
    (.region [⟨some 4, .none, true, 4, .assign (.const (.bool false))⟩])
  (.keep [0, 1]
  (.seq
    (.seq
      (.region [⟨some 6, .none, true, 31, .move (.tmp 0)⟩,
        ⟨some 7, .none, true, 3, .call { callee := .builtin .len, args := #[.tmp 6], argTypes := #[31] }⟩,
        ⟨some 8, .none, true, 31, .move (.tmp 1)⟩,
        ⟨some 9, .none, true, 3, .call { callee := .builtin .len, args := #[.tmp 8], argTypes := #[31] }⟩,
        ⟨some 10, .none, true, 4, .binOp .neq 3 (.tmp 7) (.tmp 9) 3⟩])
    (.keep [0, 1, 10]
    (.cond (.tmp 10)
      (.seq
        (.region [⟨some 4, .none, true, 4, .assign (.const (.bool false))⟩])
      .ret)
      .skip)))
  (.seq
    (.seq
      (.region [⟨some 5, .none, true, 3, .assign (.const (.int .i64 0))⟩])
    (.keep [0, 1, 5]
    (.block 0
      (.loop [0, 1, 5] rc_reevelaw6_wordsl0))))
  (.seq
    (.region [⟨some 4, .none, true, 4, .assign (.const (.bool true))⟩])
  .ret)))))
theorem t_reevelaw6_words : FnT Try.prog f_reevelaw6_words rc_reevelaw6_words [.tmp 4] 2 := ⟨⟨[], Try.f37, _, Try.func37, rfl, by kernel_rfl, by kernel_rfl, by kernel_rfl, rfl, by decide⟩, by kernel_rfl⟩
/-- reeve/geo.Plain -/
abbrev f_geo_Plain : FuncId := 38
def rc_geo_Plain : RCode :=
  (.seq
    (.region [⟨some 0, .none, true, 0, .alloc 52⟩])
  (.keep [0]
  (.seq
    (.region [⟨some 1, .none, true, 52, .build 52 #[(0, .const (.int .i64 2)), (1, .const (.int .i64 32)), (2, .const (.int .i64 16))]⟩,
      ⟨none, .none, true, 0, .store 52 (.tmp 0) (.tmp 1)⟩])
  .ret)))
theorem t_geo_Plain : FnT Try.prog f_geo_Plain rc_geo_Plain [.cell 0 52] 0 := ⟨⟨[], Try.f38, _, Try.func38, rfl, by kernel_rfl, by kernel_rfl, by kernel_rfl, rfl, by decide⟩, by kernel_rfl⟩
/-- reeve/geo.Rows -/
abbrev f_geo_Rows : FuncId := 39
def rc_geo_Rows : RCode :=
  (.seq
    (.region [⟨some 1, .none, true, 0, .box 52 (.tmp 0)⟩,
      ⟨some 2, .none, true, 3, .assign (.const (.int .i64 0))⟩])
  (.keep [1]
  (.seq
    (.seq
      (.region [⟨some 3, .none, true, 52, .load 52 (.tmp 1)⟩,
        ⟨some 4, .none, true, 4, .call { callee := .value (.func 45), args := #[.tmp 3], argTypes := #[52] }⟩,
        ⟨some 5, .none, true, 4, .unOp .not 4 (.tmp 4)⟩])
    (.keep [1, 5]
    (.cond (.tmp 5)
      (.seq
        (.region [⟨some 2, .none, true, 3, .assign (.const (.int .i64 0))⟩])
      .ret)
      .skip)))
  (.seq
    (.region [⟨some 6, .none, true, 52, .load 52 (.tmp 1)⟩,
      ⟨some 7, .none, true, 3, .call { callee := .value (.func 54), args := #[.tmp 6], argTypes := #[52] }⟩,
      ⟨some 8, .none, true, 3, .binOp .quo 3 (.tmp 7) (.const (.int .i64 8)) 3⟩,
      ⟨some 9, .none, true, 3, .binOp .add 3 (.tmp 8) (.const (.int .i64 1)) 3⟩,
      ⟨some 2, .none, true, 3, .assign (.tmp 9)⟩])
  .ret))))
theorem t_geo_Rows : FnT Try.prog f_geo_Rows rc_geo_Rows [.tmp 2] 1 := ⟨⟨[], Try.f39, _, Try.func39, rfl, by kernel_rfl, by kernel_rfl, by kernel_rfl, rfl, by decide⟩, by kernel_rfl⟩
/-- reeve/super.Find -/
abbrev f_super_Find : FuncId := 40
def rc_super_Find : RCode :=
  (.seq
    (.region [⟨some 2, .none, true, 0, .alloc 54⟩,
      ⟨some 3, .none, true, 4, .assign (.const (.bool false))⟩,
      ⟨some 4, .none, true, 4, .assign (.const (.bool false))⟩])
  (.keep [0, 2]
  (.seq
    (.region [⟨some 7, .none, true, 31, .move (.tmp 0)⟩,
      ⟨some 8, .none, true, 3, .call { callee := .builtin .len, args := #[.tmp 7], argTypes := #[31] }⟩,
      ⟨some 5, .none, true, 3, .assign (.tmp 8)⟩])
  (.keep [0, 2, 5]
  (.seq
    (.seq
      (.region [⟨some 9, .none, true, 3, .move (.tmp 5)⟩,
        ⟨some 10, .none, true, 4, .binOp .lss 3 (.tmp 9) (.const (.int .i64 8)) 3⟩,
        ⟨some 11, .none, true, 4, .move (.tmp 10)⟩,
        ⟨some 12, .some 11 false, true, 3, .move (.tmp 5)⟩,
        ⟨some 13, .some 11 false, true, 3, .binOp .rem 3 (.tmp 12) (.const (.int .i64 8)) 3⟩,
        ⟨some 14, .some 11 false, true, 4, .binOp .neq 3 (.tmp 13) (.const (.int .i64 0)) 3⟩,
        ⟨some 15, .none, true, 4, .pick (.tmp 11) (.const (.bool true)) (.tmp 14)⟩])
    (.keep [0, 2, 5, 15]
    (.cond (.tmp 15)
      (.seq
        (.region [⟨some 16, .none, true, 54, .build 54 #[]⟩,
          ⟨none, .none, true, 0, .store 54 (.tmp 2) (.tmp 16)⟩,
          ⟨some 3, .none, true, 4, .assign (.const (.bool false))⟩,
          ⟨some 4, .none, true, 4, .assign (.const (.bool false))⟩])
      .ret)
      .skip)))
  (.seq
    (.region [⟨some 18, .none, true, 31, .move (.tmp 0)⟩,
      ⟨some 19, .none, true, 31, .slice 31 (.tmp 18) none (some (.const (.int .i64 8))) none⟩,
      ⟨some 20, .none, true, 56, .call { callee := .value (.func 36), args := #[.tmp 19], argTypes := #[31] }⟩,
      ⟨some 17, .none, true, 56, .move (.tmp 20)⟩,
      ⟨some 21, .none, true, 54, .extract (.tmp 17) 0⟩,
      ⟨some 22, .none, true, 4, .extract (.tmp 17) 1⟩,
      ⟨none, .none, true, 0, .store 54 (.tmp 2) (.tmp 21)⟩,
      ⟨some 3, .none, true, 4, .assign (.tmp 22)⟩])
  (.keep [0, 2, 3, 5]
  (.seq
    (.region [⟨some 23, .none, true, 4, .move (.tmp 3)⟩,
      ⟨some 24, .none, true, 4, .move (.tmp 23)⟩,
      ⟨some 25, .some 24 true, true, 0, .fieldAddr 54 (.tmp 2) 0⟩,
      ⟨some 26, .some 24 true, true, 52, .load 52 (.tmp 25)⟩,
      ⟨some 27, .some 24 true, true, 3, .call { callee := .value (.func 39), args := #[.tmp 26], argTypes := #[52] }⟩,
      ⟨some 28, .some 24 true, true, 3, .move (.tmp 5)⟩,
      ⟨some 29, .some 24 true, true, 3, .binOp .quo 3 (.tmp 28) (.const (.int .i64 8)) 3⟩,
      ⟨some 30, .some 24 true, true, 4, .binOp .eql 3 (.tmp 27) (.tmp 29) 3⟩,
      ⟨some 31, .none, true, 4, .pick (.tmp 24) (.tmp 30) (.const (.bool false))⟩,
      ⟨some 3, .none, true, 4, .assign (.tmp 31)⟩])
  (.keep [0, 2, 3, 5]
  (.seq
    (.region [⟨some 33, .none, true, 31, .move (.tmp 0)⟩,
      ⟨some 34, .none, true, 3, .move (.tmp 5)⟩,
      ⟨some 35, .none, true, 3, .binOp .sub 3 (.tmp 34) (.const (.int .i64 8)) 3⟩,
      ⟨some 36, .none, true, 31, .slice 31 (.tmp 33) (some (.tmp 35)) none none⟩,
      ⟨some 37, .none, true, 56, .call { callee := .value (.func 36), args := #[.tmp 36], argTypes := #[31] }⟩,
      ⟨some 32, .none, true, 56, .move (.tmp 37)⟩,
      ⟨some 38, .none, true, 54, .extract (.tmp 32) 0⟩,
      ⟨some 39, .none, true, 4, .extract (.tmp 32) 1⟩,
      ⟨some 6, .none, true, 0, .alloc 54⟩,
      ⟨none, .none, true, 0, .store 54 (.tmp 6) (.tmp 38)⟩,
      ⟨some 4, .none, true, 4, .assign (.tmp 39)⟩])
  (.keep [2, 3, 4, 5, 6]
  (.seq
    (.region [⟨some 40, .none, true, 4, .move (.tmp 4)⟩,
      ⟨some 41, .none, true, 4, .move (.tmp 40)⟩,
      ⟨some 42, .some 41 true, true, 0, .fieldAddr 54 (.tmp 6) 0⟩,
      ⟨some 43, .some 41 true, true, 52, .load 52 (.tmp 42)⟩,
      ⟨some 44, .some 41 true, true, 3, .call { callee := .value (.func 39), args := #[.tmp 43], argTypes := #[52] }⟩,
      ⟨some 45, .some 41 true, true, 3, .move (.tmp 5)⟩,
      ⟨some 46, .some 41 true, true, 3, .binOp .quo 3 (.tmp 45) (.const (.int .i64 8)) 3⟩,
      ⟨some 47, .some 41 true, true, 4, .binOp .eql 3 (.tmp 44) (.tmp 46) 3⟩,
      ⟨some 48, .none, true, 4, .pick (.tmp 41) (.tmp 47) (.const (.bool false))⟩,
      ⟨some 4, .none, true, 4, .assign (.tmp 48)⟩])
  (.keep [2, 3, 4, 6]
  (.seq
    (.block 0
      (.seq
        (.region [⟨some 50, .none, true, 4, .move (.tmp 3)⟩,
          ⟨some 49, .none, true, 4, .assign (.tmp 50)⟩])
      (.keep [2, 3, 4, 6, 49]
      (.cond (.tmp 49)
        (.seq
          (.region [⟨some 51, .none, true, 54, .load 54 (.tmp 2)⟩,
            ⟨some 52, .none, true, 4, .move (.tmp 3)⟩,
            ⟨some 53, .none, true, 4, .move (.tmp 4)⟩,
            ⟨none, .none, true, 0, .store 54 (.tmp 2) (.tmp 51)⟩,
            ⟨some 3, .none, true, 4, .assign (.tmp 52)⟩,
            ⟨some 4, .none, true, 4, .assign (.tmp 53)⟩])
        .ret)
        (.seq
          (.region [⟨some 55, .none, true, 4, .move (.tmp 4)⟩,
            ⟨some 54, .none, true, 4, .assign (.tmp 55)⟩])
        (.keep [2, 3, 4, 6, 54]
        (.cond (.tmp 54)
          (.seq
            (.region [⟨some 56, .none, true, 54, .load 54 (.tmp 6)⟩,
              ⟨some 57, .none, true, 4, .move (.tmp 3)⟩,
              ⟨some 58, .none, true, 4, .move (.tmp 4)⟩,
              ⟨none, .none, true, 0, .store 54 (.tmp 2) (.tmp 56)⟩,
              ⟨some 3, .none, true, 4, .assign (.tmp 57)⟩,
              ⟨some 4, .none, true, 4, .assign (.tmp 58)⟩])
          .ret)
          .skip)))))))
  (.keep [2]
  (.seq
    (.region [⟨some 59, .none, true, 54, .build 54 #[]⟩,
      ⟨none, .none, true, 0, .store 54 (.tmp 2) (.tmp 59)⟩,
      ⟨some 3, .none, true, 4, .assign (.const (.bool false))⟩,
      ⟨some 4, .none, true, 4, .assign (.const (.bool false))⟩])
  .ret))))))))))))))))
theorem t_super_Find : FnT Try.prog f_super_Find rc_super_Find [.cell 2 54, .tmp 3, .tmp 4] 1 := ⟨⟨[], Try.f40, _, Try.func40, rfl, by kernel_rfl, by kernel_rfl, by kernel_rfl, rfl, by decide⟩, by kernel_rfl⟩
/-- reeve/reeveref1.GetSuper -/
abbrev f_reeveref1_GetSuper : FuncId := 41
def rc_reeveref1_GetSuperl0 : RCode :=
  (.seq
    (.seq
      (.region [⟨some 52, .none, true, 3, .move (.tmp 6)⟩,
        ⟨some 53, .none, true, 4, .binOp .lss 3 (.tmp 52) (.const (.int .i64 8)) 3⟩])
    (.keep [0, 2, 4, 5, 6, 53]
    (.cond (.tmp 53)
      .skip
      (.exit 0))))
  (.seq
    (.block 1
      (.seq
        (.region [⟨some 56, .none, false, 31, .move (.tmp 5)⟩,
          ⟨some 57, .none, false, 3, .move (.tmp 6)⟩,
          ⟨some 58, .none, false, 0, .indexAddr 31 (.tmp 56) (.tmp 57)⟩,
          ⟨some 59, .none, false, 34, .load 34 (.tmp 58)⟩,
          ⟨some 60, .none, false, 31, .move (.tmp 0)⟩,
          ⟨some 61, .none, false, 3, .move (.tmp 6)⟩,
          ⟨some 62, .none, false, 0, .indexAddr 31 (.tmp 60) (.tmp 61)⟩,
          ⟨some 63, .none, false, 34, .load 34 (.tmp 62)⟩,
          ⟨some 64, .none, true, 4, .binOp .neq 34 (.tmp 59) (.tmp 63) 34⟩])
      (.keep [0, 2, 4, 5, 6, 64]
      (.cond (.tmp 64)
        (.seq
          (.region [⟨some 65, .none, true, 65, .build 65 #[]⟩,
            ⟨none, .none, true, 0, .store 65 (.tmp 2) (.tmp 65)⟩,
            ⟨some 3, .none, true, 4, .assign (.const (.bool false))⟩])
        .ret)
        .skip))))
  (.keep [0, 2, 4, 5, 6]
  (.region [⟨some 54, .none, true, 3, .move (.tmp 6)⟩,
    ⟨some 55, .none, true, 3, .binOp .add 3 (.tmp 54) (.const (.int .i64 1)) 3⟩,
    ⟨some 6, .none, true, 3, .assign (.tmp 55)⟩]))))
def rc_reeveref1_GetSuper : RCode :=
  (.seq
    (.region [⟨some 2, .none, true, 0, .alloc 65⟩,
      ⟨some 3, .none, true, 4, .assign (.const (.bool false))⟩])
  (.keep [0, 2]
  (.seq
    (.seq
      (.region [⟨some 7, .none, true, 31, .move (.tmp 0)⟩,
        ⟨some 8, .none, true, 3, .call { callee := .builtin .len, args := #[.tmp 7], argTypes := #[31] }⟩,
        ⟨some 9, .none, true, 4, .binOp .neq 3 (.tmp 8) (.const (.int .i64 8)) 3⟩,
        ⟨some 10, .none, true, 4, .move (.tmp 9)⟩,
        ⟨some 11, .some 10 false, true, 31, .move (.tmp 0)⟩,
        ⟨some 12, .some 10 false, true, 0, .indexAddr 31 (.tmp 11) (.const (.int .i64 1))⟩,
        ⟨some 13, .some 10 false, true, 34, .load 34 (.tmp 12)⟩,
        ⟨some 14, .some 10 false, true, 4, .binOp .gtr 34 (.tmp 13) (.const (.int .u64 99)) 34⟩,
        ⟨some 15, .none, true, 4, .pick (.tmp 10) (.const (.bool true)) (.tmp 14)⟩,
        ⟨some 16, .none, true, 4, .move (.tmp 15)⟩,
        ⟨some 17, .some 16 false, true, 31, .move (.tmp 0)⟩,
        ⟨some 18, .some 16 false, true, 0, .indexAddr 31 (.tmp 17) (.const (.int .i64 2))⟩,
        ⟨some 19, .some 16 false, true, 34, .load 34 (.tmp 18)⟩,
        ⟨some 20, .some 16 false, true, 4, .binOp .gtr 34 (.tmp 19) (.const (.int .u64 99)) 34⟩,
        ⟨some 21, .none, true, 4, .pick (.tmp 16) (.const (.bool true)) (.tmp 20)⟩,
        ⟨some 22, .none, true, 4, .move (.tmp 21)⟩,
        ⟨some 23, .some 22 false, true, 31, .move (.tmp 0)⟩,
        ⟨some 24, .some 22 false, true, 0, .indexAddr 31 (.tmp 23) (.const (.int .i64 3))⟩,
        ⟨some 25, .some 22 false, true, 34, .load 34 (.tmp 24)⟩,
        ⟨some 26, .some 22 false, true, 4, .binOp .gtr 34 (.tmp 25) (.const (.int .u64 99)) 34⟩,
        ⟨some 27, .none, true, 4, .pick (.tmp 22) (.const (.bool true)) (.tmp 26)⟩])
    (.keep [0, 2, 27]
    (.cond (.tmp 27)
      (.seq
        (.region [⟨some 28, .none, true, 65, .build 65 #[]⟩,
          ⟨none, .none, true, 0, .store 65 (.tmp 2) (.tmp 28)⟩,
          ⟨some 3, .none, true, 4, .assign (.const (.bool false))⟩])
      .ret)
      .skip)))
  (.seq
    (.regionD [⟨some 29, .none, 31, .move (.tmp 0), 0, []⟩,
      ⟨some 30, .none, 0, .indexAddr 31 (.tmp 29) (.const (.int .i64 1)), 1, []⟩,
      ⟨some 31, .none, 34, .load 34 (.tmp 30), 2, []⟩,
      ⟨some 32, .none, 3, .convert 34 3 (.tmp 31), 3, []⟩,
      ⟨some 33, .none, 31, .move (.tmp 0), 4, []⟩,
      ⟨some 34, .none, 0, .indexAddr 31 (.tmp 33) (.const (.int .i64 2)), 5, []⟩,
      ⟨some 35, .none, 34, .load 34 (.tmp 34), 6, []⟩,
      ⟨some 36, .none, 3, .convert 34 3 (.tmp 35), 7, []⟩,
      ⟨some 37, .none, 31, .move (.tmp 0), 8, []⟩,
      ⟨some 38, .none, 0, .indexAddr 31 (.tmp 37) (.const (.int .i64 3)), 9, []⟩,
      ⟨some 39, .none, 34, .load 34 (.tmp 38), 10, []⟩,
      ⟨some 40, .none, 3, .convert 34 3 (.tmp 39), 11, []⟩,
      ⟨some 41, .none, 63, .build 63 #[(0, .tmp 32), (1, .tmp 36), (2, .tmp 40)], 12, []⟩,
      ⟨some 42, .none, 31, .move (.tmp 0), 13, []⟩,
      ⟨some 43, .none, 0, .indexAddr 31 (.tmp 42) (.const (.int .i64 4)), 14, []⟩,
      ⟨some 44, .none, 34, .load 34 (.tmp 43), 15, []⟩,
      ⟨some 45, .none, 65, .build 65 #[(0, .tmp 41), (1, .tmp 44)], 16, []⟩,
      ⟨some 4, .none, 0, .alloc 65, 17, [2, 6, 10, 15]⟩,
      ⟨none, .none, 0, .store 65 (.tmp 4) (.tmp 45), 18, []⟩])
  (.keep [0, 2, 4]
  (.seq
    (.region [⟨some 46, .none, true, 65, .load 65 (.tmp 4)⟩,
      ⟨some 47, .none, true, 31, .call { callee := .value (.func 43), args := #[.tmp 46], argTypes := #[65] }⟩,
      ⟨some 5, .none, true, 31, .assign (.tmp 47)⟩])
  (.keep [0, 2, 4, 5]
  (.seq
    (.seq
      (.region [⟨some 48, .none, true, 31, .move (.tmp 5)⟩,
        ⟨some 49, .none, true, 3, .call { callee := .builtin .len, args := #[.tmp 48], argTypes := #[31] }⟩,
        ⟨some 50, .none, true, 4, .binOp .neq 3 (.tmp 49) (.const (.int .i64 8)) 3⟩])
    (.keep [0, 2, 4, 5, 50]
    (.cond (.tmp 50)
      (.seq
        (.region [⟨some 51, .none, true, 65, .build 65 #[]⟩,
          ⟨none, .none, true, 0, .store 65 (.tmp 2) (.tmp 51)⟩,
          ⟨some 3, .none, true, 4, .assign (.const (.bool false))⟩])
      .ret)
      .skip)))
  (.seq
    (.seq
      (.region [⟨some 6, .none, true, 3, .assign (.const (.int .i64 0))⟩])
    (.keep [0, 2, 4, 5, 6]
    (.block 0
      (.loop [0, 2, 4, 5, 6] rc_reeveref1_GetSuperl0))))
  (.seq
    (.region [⟨some 66, .none, true, 65, .load 65 (.tmp 4)⟩,
      ⟨none, .none, true, 0, .store 65 (.tmp 2) (.tmp 66)⟩,
      ⟨some 3, .none, true, 4, .assign (.const (.bool true))⟩])
  .ret))))))))))
theorem t_reeveref1_GetSuper : FnT Try.prog f_reeveref1_GetSuper rc_reeveref1_GetSuper [.cell 2 65, .tmp 3] 1 := ⟨⟨[3], Try.f41, _, Try.func41, rfl, by kernel_rfl, by kernel_rfl, by kernel_rfl, rfl, by decide⟩, by kernel_rfl⟩
/-- reeve/reeveref1.Find -/
abbrev f_reeveref1_Find : FuncId := 42
def rc_reeveref1_Find : RCode :=
  (.seq
    (.region [⟨some 2, .none, true, 0, .alloc 65⟩,
      ⟨some 3, .none, true, 4, .assign (.const (.bool false))⟩,
      ⟨some 4, .none, true, 4, .assign (.const (.bool false))⟩])
  (.keep [0, 2]
  (.seq
    (.seq
      (.region [⟨some 9, .none, true, 31, .move (.tmp 0)⟩,
        ⟨some 10, .none, true, 3, .call { callee := .builtin .len, args := #[.tmp 9], argTypes := #[31] }⟩,
        ⟨some 11, .none, true, 4, .binOp .lss 3 (.tmp 10) (.const (.int .i64 8)) 3⟩,
        ⟨some 12, .none, true, 4, .move (.tmp 11)⟩,
        ⟨some 13, .some 12 false, true, 31, .move (.tmp 0)⟩,
        ⟨some 14, .some 12 false, true, 3, .call { callee := .builtin .len, args := #[.tmp 13], argTypes := #[31] }⟩,
        ⟨some 15, .some 12 false, true, 3, .binOp .rem 3 (.tmp 14) (.const (.int .i64 8)) 3⟩,
        ⟨some 16, .some 12 false, true, 4, .binOp .neq 3 (.tmp 15) (.const (.int .i64 0)) 3⟩,
        ⟨some 17, .none, true, 4, .pick (.tmp 12) (.const (.bool true)) (.tmp 16)⟩])
    (.keep [0, 2, 17]
    (.cond (.tmp 17)
      (.seq
        (.region [⟨some 18, .none, true, 65, .build 65 #[]⟩,
          ⟨none, .none, true, 0, .store 65 (.tmp 2) (.tmp 18)⟩,
          ⟨some 3, .none, true, 4, .assign (.const (.bool false))⟩,
          ⟨some 4, .none, true, 4, .assign (.const (.bool false))⟩])
      .ret)
      .skip)))
  (.seq
    (.region [⟨some 20, .none, true, 31, .move (.tmp 0)⟩,
      ⟨some 21, .none, true, 31, .slice 31 (.tmp 20) none (some (.const (.int .i64 8))) none⟩,
      ⟨some 22, .none, true, 66, .call { callee := .value (.func 41), args := #[.tmp 21], argTypes := #[31] }⟩,
      ⟨some 19, .none, true, 66, .move (.tmp 22)⟩,
      ⟨some 23, .none, true, 65, .extract (.tmp 19) 0⟩,
      ⟨some 24, .none, true, 4, .extract (.tmp 19) 1⟩,
      ⟨some 5, .none, true, 0, .alloc 65⟩,
      ⟨none, .none, true, 0, .store 65 (.tmp 5) (.tmp 23)⟩,
      ⟨some 6, .none, true, 4, .assign (.tmp 24)⟩])
  (.keep [0, 2, 5, 6]
  (.seq
    (.region [⟨some 26, .none, true, 31, .move (.tmp 0)⟩,
      ⟨some 27, .none, true, 31, .move (.tmp 0)⟩,
      ⟨some 28, .none, true, 3, .call { callee := .builtin .len, args := #[.tmp 27], argTypes := #[31] }⟩,
      ⟨some 29, .none, true, 3, .binOp .sub 3 (.tmp 28) (.const (.int .i64 8)) 3⟩,
      ⟨some 30, .none, true, 31, .slice 31 (.tmp 26) (some (.tmp 29)) none none⟩,
      ⟨some 31, .none, true, 66, .call { callee := .value (.func 41), args := #[.tmp 30], argTypes := #[31] }⟩,
      ⟨some 25, .none, true, 66, .move (.tmp 31)⟩,
      ⟨some 32, .none, true, 65, .extract (.tmp 25) 0⟩,
      ⟨some 33, .none, true, 4, .extract (.tmp 25) 1⟩,
      ⟨some 7, .none, true, 0, .alloc 65⟩,
      ⟨none, .none, true, 0, .store 65 (.tmp 7) (.tmp 32)⟩,
      ⟨some 8, .none, true, 4, .assign (.tmp 33)⟩])
  (.keep [0, 2, 5, 6, 7, 8]
  (.seq
    (.region [⟨some 34, .none, true, 4, .move (.tmp 6)⟩,
      ⟨some 35, .none, true, 4, .move (.tmp 34)⟩,
      ⟨some 36, .some 35 true, true, 0, .fieldAddr 65 (.tmp 5) 0⟩,
      ⟨some 37, .some 35 true, true, 63, .load 63 (.tmp 36)⟩,
      ⟨some 38, .some 35 true, true, 3, .call { callee := .value (.func 55), args := #[.tmp 37], argTypes := #[63] }⟩,
      ⟨some 39, .some 35 true, true, 3, .binOp .mul 3 (.const (.int .i64 8)) (.tmp 38) 3⟩,
      ⟨some 40, .some 35 true, true, 31, .move (.tmp 0)⟩,
      ⟨some 41, .some 35 true, true, 3, .call { callee := .builtin .len, args := #[.tmp 40], argTypes := #[31] }⟩,
      ⟨some 42, .some 35 true, true, 4, .binOp .eql 3 (.tmp 39) (.tmp 41) 3⟩,
      ⟨some 43, .none, true, 4, .pick (.tmp 35) (.tmp 42) (.const (.bool false))⟩,
      ⟨some 6, .none, true, 4, .assign (.tmp 43)⟩])
  (.keep [0, 2, 5, 6, 7, 8]
  (.seq
    (.region [⟨some 44, .none, true, 4, .move (.tmp 8)⟩,
      ⟨some 45, .none, true, 4, .move (.tmp 44)⟩,
      ⟨some 46, .some 45 true, true, 0, .fieldAddr 65 (.tmp 7) 0⟩,
      ⟨some 47, .some 45 true, true, 63, .load 63 (.tmp 46)⟩,
      ⟨some 48, .some 45 true, true, 3, .call { callee := .value (.func 55), args := #[.tmp 47], argTypes := #[63] }⟩,
      ⟨some 49, .some 45 true, true, 3, .binOp .mul 3 (.const (.int .i64 8)) (.tmp 48) 3⟩,
      ⟨some 50, .some 45 true, true, 31, .move (.tmp 0)⟩,
      ⟨some 51, .some 45 true, true, 3, .call { callee := .builtin .len, args := #[.tmp 50], argTypes := #[31] }⟩,
      ⟨some 52, .some 45 true, true, 4, .binOp .eql 3 (.tmp 49) (.tmp 51) 3⟩,
      ⟨some 53, .none, true, 4, .pick (.tmp 45) (.tmp 52) (.const (.bool false))⟩,
      ⟨some 8, .none, true, 4, .assign (.tmp 53)⟩])
  (.keep [2, 5, 6, 7, 8]
  (.seq
    (.block 0
      (.seq
        (.region [⟨some 55, .none, true, 4, .move (.tmp 6)⟩,
          ⟨some 54, .none, true, 4, .assign (.tmp 55)⟩])
      (.keep [2, 5, 6, 7, 8, 54]
      (.cond (.tmp 54)
        (.seq
          (.region [⟨some 56, .none, true, 65, .load 65 (.tmp 5)⟩,
            ⟨some 57, .none, true, 4, .move (.tmp 6)⟩,
            ⟨some 58, .none, true, 4, .move (.tmp 8)⟩,
            ⟨none, .none, true, 0, .store 65 (.tmp 2) (.tmp 56)⟩,
            ⟨some 3, .none, true, 4, .assign (.tmp 57)⟩,
            ⟨some 4, .none, true, 4, .assign (.tmp 58)⟩])
        .ret)
        (.seq
          (.region [⟨some 60, .none, true, 4, .move (.tmp 8)⟩,
            ⟨some 59, .none, true, 4, .assign (.tmp 60)⟩])
        (.keep [2, 6, 7, 8, 59]
        (.cond (.tmp 59)
          (.seq
            (.region [⟨some 61, .none, true, 65, .load 65 (.tmp 7)⟩,
              ⟨some 62, .none, true, 4, .move (.tmp 6)⟩,
              ⟨some 63, .none, true, 4, .move (.tmp 8)⟩,
              ⟨none, .none, true, 0, .store 65 (.tmp 2) (.tmp 61)⟩,
              ⟨some 3, .none, true, 4, .assign (.tmp 62)⟩,
              ⟨some 4, .none, true, 4, .assign (.tmp 63)⟩])
          .ret)
          .skip)))))))
  (.keep [2]
  (.seq
    (.region [⟨some 64, .none, true, 65, .build 65 #[]⟩,
      ⟨none, .none, true, 0, .store 65 (.tmp 2) (.tmp 64)⟩,
      ⟨some 3, .none, true, 4, .assign (.const (.bool false))⟩,
      ⟨some 4, .none, true, 4, .assign (.const (.bool false))⟩])
  .ret))))))))))))))
theorem t_reeveref1_Find : FnT Try.prog f_reeveref1_Find rc_reeveref1_Find [.cell 2 65, .tmp 3, .tmp 4] 1 := ⟨⟨[], Try.f42, _, Try.func42, rfl, by kernel_rfl, by kernel_rfl, by kernel_rfl, rfl, by decide⟩, by kernel_rfl⟩
/-- reeve/reeveref1.PutSuper -/
abbrev f_reeveref1_PutSuper : FuncId := 43
def rc_reeveref1_PutSuper : RCode :=
  (.seq
    (.region [⟨some 1, .none, true, 0, .box 65 (.tmp 0)⟩,
      ⟨some 2, .none, true, 31, .assign (.const (.slice none 0 0))⟩])
  (.keep [1]
  (.seq
    (.seq
      (.region [⟨some 6, .none, true, 0, .fieldAddr 65 (.tmp 1) 0⟩,
        ⟨some 7, .none, true, 63, .load 63 (.tmp 6)⟩,
        ⟨some 8, .none, true, 4, .call { callee := .value (.func 56), args := #[.tmp 7], argTypes := #[63] }⟩,
        ⟨some 9, .none, true, 4, .unOp .not 4 (.tmp 8)⟩])
    (.keep [1, 9]
    (.cond (.tmp 9)
      (.seq
        (.region [⟨some 2, .none, true, 31, .assign (.const (.slice none 0 0))⟩])
      .ret)
      .skip)))
  (.seq
    (.region [⟨some 10, .none, true, 0, .fieldAddr 65 (.tmp 1) 0⟩,
      ⟨some 11, .none, true, 0, .fieldAddr 63 (.tmp 10) 0⟩,
      ⟨some 12, .none, true, 3, .load 3 (.tmp 11)⟩,
      ⟨some 13, .none, true, 34, .convert 3 34 (.tmp 12)⟩,
      ⟨some 14, .none, true, 0, .fieldAddr 65 (.tmp 1) 0⟩,
      ⟨some 15, .none, true, 0, .fieldAddr 63 (.tmp 14) 1⟩,
      ⟨some 16, .none, true, 3, .load 3 (.tmp 15)⟩,
      ⟨some 17, .none, true, 34, .convert 3 34 (.tmp 16)⟩,
      ⟨some 18, .none, true, 0, .fieldAddr 65 (.tmp 1) 0⟩,
      ⟨some 19, .none, true, 0, .fieldAddr 63 (.tmp 18) 2⟩,
      ⟨some 20, .none, true, 3, .load 3 (.tmp 19)⟩,
      ⟨some 21, .none, true, 34, .convert 3 34 (.tmp 20)⟩,
      ⟨some 22, .none, true, 0, .fieldAddr 65 (.tmp 1) 1⟩,
      ⟨some 23, .none, true, 34, .load 34 (.tmp 22)⟩,
      ⟨some 24, .none, true, 31, .buildSlice 31 7 #[(0, .const (.int .u64 8243106252149764145)), (1, .tmp 13), (2, .tmp 17), (3, .tmp 21), (4, .tmp 23), (5, .const (.int .u64 0)), (6, .const (.int .u64 0))]⟩,
      ⟨some 3, .none, true, 31, .assign (.tmp 24)⟩])
  (.keep [3]
  (.seq
    (.region [⟨some 26, .none, true, 31, .move (.tmp 3)⟩,
      ⟨some 27, .none, true, 79, .call { callee := .value (.func 52), args := #[.tmp 26], argTypes := #[31] }⟩,
      ⟨some 25, .none, true, 79, .move (.tmp 27)⟩,
      ⟨some 28, .none, true, 2, .extract (.tmp 25) 0⟩,
      ⟨some 29, .none, true, 2, .extract (.tmp 25) 1⟩,
      ⟨some 4, .none, true, 2, .assign (.tmp 28)⟩,
      ⟨some 5, .none, true, 2, .assign (.tmp 29)⟩])
  (.keep [3, 4, 5]
  (.seq
    (.region [⟨some 30, .none, true, 31, .move (.tmp 3)⟩,
      ⟨some 31, .none, true, 2, .move (.tmp 5)⟩,
      ⟨some 32, .none, true, 34, .convert 2 34 (.tmp 31)⟩,
      ⟨some 33, .none, true, 34, .binOp .mul 34 (.tmp 32) (.const (.int .u64 4294967296)) 34⟩,
      ⟨some 34, .none, true, 2, .move (.tmp 4)⟩,
      ⟨some 35, .none, true, 34, .convert 2 34 (.tmp 34)⟩,
      ⟨some 36, .none, true, 34, .binOp .add 34 (.tmp 33) (.tmp 35) 34⟩,
      ⟨some 37, .none, true, 31, .buildSlice 31 1 #[(0, .tmp 36)]⟩,
      ⟨some 38, .none, true, 31, .call { callee := .builtin .append, args := #[.tmp 30, .tmp 37], argTypes := #[31, 31] }⟩,
      ⟨some 2, .none, true, 31, .assign (.tmp 38)⟩])
  .ret))))))))
theorem t_reeveref1_PutSuper : FnT Try.prog f_reeveref1_PutSuper rc_reeveref1_PutSuper [.tmp 2] 1 := ⟨⟨[], Try.f43, _, Try.func43, rfl, by kernel_rfl, by kernel_rfl, by kernel_rfl, rfl, by decide⟩, by kernel_rfl⟩
/-- reeve/reevelaw6.own -/
abbrev f_reevelaw6_own : FuncId := 44
def rc_reevelaw6_own : RCode :=
  (.seq
    (.region [⟨some 1, .none, true, 0, .box 54 (.tmp 0)⟩,
      ⟨some 2, .none, true, 0, .alloc 65⟩])
  (.keep [1, 2]
  (.seq
    (.region [⟨some 3, .none, false, 0, .fieldAddr 54 (.tmp 1) 0⟩,
      ⟨some 4, .none, false, 52, .load 52 (.tmp 3)⟩,
      ⟨some 5, .none, false, 63, .call { callee := .value (.func 57), args := #[.tmp 4], argTypes := #[52] }⟩,
      ⟨some 6, .none, false, 0, .fieldAddr 54 (.tmp 1) 1⟩,
      ⟨some 7, .none, false, 34, .load 34 (.tmp 6)⟩,
      ⟨some 8, .none, true, 65, .build 65 #[(0, .tmp 5), (1, .tmp 7)]⟩,
      ⟨none, .none, true, 0, .store 65 (.tmp 2) (.tmp 8)⟩])
  .ret)))
theorem t_reevelaw6_own : FnT Try.prog f_reevelaw6_own rc_reevelaw6_own [.cell 2 65] 1 := ⟨⟨[], Try.f44, _, Try.func44, rfl, by kernel_rfl, by kernel_rfl, by kernel_rfl, rfl, by decide⟩, by kernel_rfl⟩
/-- reeve/geo.Good -/
abbrev f_geo_Good : FuncId := 45
def rc_geo_Good : RCode :=
  (.seq
    (.region [⟨some 1, .none, true, 0, .box 52 (.tmp 0)⟩,
      ⟨some 2, .none, true, 4, .assign (.const (.bool false))⟩])
  (.keep [1]
  (.seq
    (.region [⟨some 3, .none, true, 0, .fieldAddr 52 (.tmp 1) 0⟩,
      ⟨some 4, .none, true, 3, .load 3 (.tmp 3)⟩,
      ⟨some 5, .none, true, 4, .call { callee := .value (.func 58), args := #[.tmp 4, .const (.int .i64 1), .const (.int .i64 4)], argTypes := #[3, 3, 3] }⟩,
      ⟨some 6, .none, true, 4, .move (.tmp 5)⟩,
      ⟨some 7, .some 6 true, true, 0, .fieldAddr 52 (.tmp 1) 1⟩,
      ⟨some 8, .some 6 true, true, 3, .load 3 (.tmp 7)⟩,
      ⟨some 9, .some 6 true, true, 0, .fieldAddr 52 (.tmp 1) 0⟩,
      ⟨some 10, .some 6 true, true, 3, .load 3 (.tmp 9)⟩,
      ⟨some 11, .some 6 true, true, 3, .binOp .mul 3 (.const (.int .i64 8)) (.tmp 10) 3⟩,
      ⟨some 12, .some 6 true, true, 4, .call { callee := .value (.func 58), args := #[.tmp 8, .tmp 11, .const (.int .i64 96)], argTypes := #[3, 3, 3] }⟩,
      ⟨some 13, .none, true, 4, .pick (.tmp 6) (.tmp 12) (.const (.bool false))⟩,
      ⟨some 14, .none, true, 4, .move (.tmp 13)⟩,
      ⟨some 15, .some 14 true, true, 0, .fieldAddr 52 (.tmp 1) 1⟩,
      ⟨some 16, .some 14 true, true, 3, .load 3 (.tmp 15)⟩,
      ⟨some 17, .some 14 true, true, 3, .binOp .rem 3 (.tmp 16) (.const (.int .i64 8)) 3⟩,
      ⟨some 18, .some 14 true, true, 4, .binOp .eql 3 (.tmp 17) (.const (.int .i64 0)) 3⟩,
      ⟨some 19, .none, true, 4, .pick (.tmp 14) (.tmp 18) (.const (.bool false))⟩,
      ⟨some 20, .none, true, 4, .move (.tmp 19)⟩,
      ⟨some 21, .some 20 true, true, 0, .fieldAddr 52 (.tmp 1) 2⟩,
      ⟨some 22, .some 20 true, true, 3, .load 3 (.tmp 21)⟩,
      ⟨some 23, .some 20 true, true, 0, .fieldAddr 52 (.tmp 1) 0⟩,
      ⟨some 24, .some 20 true, true, 3, .load 3 (.tmp 23)⟩,
      ⟨some 25, .some 20 true, true, 3, .binOp .add 3 (.tmp 24) (.const (.int .i64 2)) 3⟩,
      ⟨some 26, .some 20 true, true, 4, .call { callee := .value (.func 58), args := #[.tmp 22, .tmp 25, .const (.int .i64 48)], argTypes := #[3, 3, 3] }⟩,
      ⟨some 27, .none, true, 4, .pick (.tmp 20) (.tmp 26) (.const (.bool false))⟩,
      ⟨some 2, .none, true, 4, .assign (.tmp 27)⟩])
  .ret)))
theorem t_geo_Good : FnT Try.prog f_geo_Good rc_geo_Good [.tmp 2] 1 := ⟨⟨[], Try.f45, _, Try.func45, rfl, by kernel_rfl, by kernel_rfl, by kernel_rfl, rfl, by decide⟩, by kernel_rfl⟩
/-- reeve/gauss.in -/
abbrev f_gauss_in : FuncId := 46
def rc_gauss_in : RCode :=
  (.seq
    (.region [⟨some 2, .none, true, 4, .assign (.const (.bool false))⟩])
  (.keep [0]
  (.seq
    (.region [⟨some 3, .none, true, 2, .move (.tmp 0)⟩,
      ⟨some 4, .none, true, 4, .binOp .geq 2 (.tmp 3) (.const (.int .i64 (-1099511627776))) 2⟩,
      ⟨some 5, .none, true, 4, .move (.tmp 4)⟩,
      ⟨some 6, .some 5 true, true, 2, .move (.tmp 0)⟩,
      ⟨some 7, .some 5 true, true, 4, .binOp .leq 2 (.tmp 6) (.const (.int .i64 1099511627776)) 2⟩,
      ⟨some 8, .none, true, 4, .pick (.tmp 5) (.tmp 7) (.const (.bool false))⟩,
      ⟨some 2, .none, true, 4, .assign (.tmp 8)⟩])
  .ret)))
theorem t_gauss_in : FnT Try.prog f_gauss_in rc_gauss_in [.tmp 2] 1 := ⟨⟨[], Try.f46, _, Try.func46, rfl, by kernel_rfl, by kernel_rfl, by kernel_rfl, rfl, by decide⟩, by kernel_rfl⟩
/-- reeve/gauss.rest -/
abbrev f_gauss_rest : FuncId := 48
def rc_gauss_rest : RCode :=
  (.seq
    (.region [⟨some 2, .none, true, 2, .assign (.const (.int .i64 0))⟩])
  (.keep [0]
  (.seq
    (.region [⟨some 3, .none, true, 2, .move (.tmp 0)⟩,
      ⟨some 4, .none, true, 2, .binOp .rem 2 (.tmp 3) (.const (.int .i64 1000003)) 2⟩,
      ⟨some 5, .none, true, 2, .binOp .add 2 (.tmp 4) (.const (.int .i64 1000003)) 2⟩,
      ⟨some 6, .none, true, 2, .binOp .rem 2 (.tmp 5) (.const (.int .i64 1000003)) 2⟩,
      ⟨some 2, .none, true, 2, .assign (.tmp 6)⟩])
  .ret)))
theorem t_gauss_rest : FnT Try.prog f_gauss_rest rc_gauss_rest [.tmp 2] 1 := ⟨⟨[], Try.f48, _, Try.func48, rfl, by kernel_rfl, by kernel_rfl, by kernel_rfl, rfl, by decide⟩, by kernel_rfl⟩
/-- reeve/gauss.whole -/
abbrev f_gauss_whole : FuncId := 49
def rc_gauss_whole : RCode :=
  (.seq
    (.region [⟨some 2, .none, true, 2, .assign (.const (.int .i64 0))⟩,
      ⟨some 3, .none, true, 4, .assign (.const (.bool false))⟩])
  (.keep [0]
  (.seq
    (.seq
      (.region [⟨some 4, .none, true, 48, .move (.tmp 0)⟩,
        ⟨some 5, .none, true, 4, .binOp .geq 48 (.tmp 4) (.const (.float .f64 14010698440749613056)) 48⟩,
        ⟨some 6, .none, true, 4, .move (.tmp 5)⟩,
        ⟨some 7, .some 6 true, true, 48, .move (.tmp 0)⟩,
        ⟨some 8, .some 6 true, true, 4, .binOp .leq 48 (.tmp 7) (.const (.float .f64 4787326403894837248)) 48⟩,
        ⟨some 9, .none, true, 4, .pick (.tmp 6) (.tmp 8) (.const (.bool false))⟩,
        ⟨some 10, .none, true, 4, .unOp .not 4 (.tmp 9)⟩,
        ⟨some 11, .none, true, 4, .move (.tmp 10)⟩,
        ⟨some 12, .some 11 false, true, 48, .move (.tmp 0)⟩,
        ⟨some 13, .some 11 false, true, 48, .move (.tmp 0)⟩,
        ⟨some 14, .some 11 false, true, 48, .call { callee := .value (.func 59), args := #[.tmp 13], argTypes := #[48] }⟩,
        ⟨some 15, .some 11 false, true, 4, .binOp .neq 48 (.tmp 12) (.tmp 14) 48⟩,
        ⟨some 16, .none, true, 4, .pick (.tmp 11) (.const (.bool true)) (.tmp 15)⟩,
        ⟨some 17, .none, true, 4, .move (.tmp 16)⟩,
        ⟨some 18, .some 17 false, true, 48, .move (.tmp 0)⟩,
        ⟨some 19, .some 17 false, true, 4, .binOp .eql 48 (.tmp 18) (.const (.float .f64 0)) 48⟩,
        ⟨some 20, .some 17 false, true, 4, .move (.tmp 19)⟩,
        ⟨some 21, .some 20 true, true, 48, .move (.tmp 0)⟩,
        ⟨some 22, .some 20 true, true, 4, .call { callee := .value (.func 60), args := #[.tmp 21], argTypes := #[48] }⟩,
        ⟨some 23, .some 17 false, true, 4, .pick (.tmp 20) (.tmp 22) (.const (.bool false))⟩,
        ⟨some 24, .none, true, 4, .pick (.tmp 17) (.const (.bool true)) (.tmp 23)⟩])
    (.keep [0, 24]
    (.cond (.tmp 24)
      (.seq
        (.region [⟨some 2, .none, true, 2, .assign (.const (.int .i64 0))⟩,
          ⟨some 3, .none, true, 4, .assign (.const (.bool false))⟩])
      .ret)
      .skip)))
  (.seq
    (.region [⟨some 25, .none, true, 48, .move (.tmp 0)⟩,
      ⟨some 26, .none, true, 2, .convert 48 2 (.tmp 25)⟩,
      ⟨some 2, .none, true, 2, .assign (.tmp 26)⟩,
      ⟨some 3, .none, true, 4, .assign (.const (.bool true))⟩])
  .ret))))
theorem t_gauss_whole : FnT Try.prog f_gauss_whole rc_gauss_whole [.tmp 2, .tmp 3] 1 := ⟨⟨[], Try.f49, _, Try.func49, rfl, by kernel_rfl, by kernel_rfl, by kernel_rfl, rfl, by decide⟩, by kernel_rfl⟩
/-- reeve/reeveref1.Sum -/
abbrev f_reeveref1_Sum : FuncId := 52
def rc_reeveref1_Suml0 : RCode :=
  (.seq
    (.seq
      (.region [⟨some 8, .none, true, 3, .move (.tmp 6)⟩,
        ⟨some 9, .none, true, 31, .move (.tmp 0)⟩,
        ⟨some 10, .none, true, 3, .call { callee := .builtin .len, args := #[.tmp 9], argTypes := #[31] }⟩,
        ⟨some 11, .none, true, 4, .binOp .lss 3 (.tmp 8) (.tmp 10) 3⟩])
    (.keep [0, 4, 5, 6, 11]
    (.cond (.tmp 11)
      .skip
      (.exit 0))))
  (.seq
    (.block 1
      (.seq
        (.region [⟨some 14, .none, true, 31, .move (.tmp 0)⟩,
          ⟨some 15, .none, true, 3, .move (.tmp 6)⟩,
          ⟨some 16, .none, true, 0, .indexAddr 31 (.tmp 14) (.tmp 15)⟩,
          ⟨some 17, .none, true, 34, .load 34 (.tmp 16)⟩,
          ⟨some 7, .none, true, 34, .assign (.tmp 17)⟩])
      (.keep [0, 4, 5, 6, 7]
      (.seq
        (.region [⟨some 18, .none, true, 2, .move (.tmp 5)⟩,
          ⟨some 19, .none, true, 2, .unOp .neg 2 (.tmp 18)⟩,
          ⟨some 20, .none, true, 2, .move (.tmp 4)⟩,
          ⟨some 4, .none, true, 2, .assign (.tmp 19)⟩,
          ⟨some 5, .none, true, 2, .assign (.tmp 20)⟩])
      (.keep [0, 4, 5, 6, 7]
      (.seq
        (.region [⟨some 21, .none, true, 2, .move (.tmp 4)⟩,
          ⟨some 22, .none, true, 34, .move (.tmp 7)⟩,
          ⟨some 23, .none, true, 34, .binOp .rem 34 (.tmp 22) (.const (.int .u64 65536)) 34⟩,
          ⟨some 24, .none, true, 2, .convert 34 2 (.tmp 23)⟩,
          ⟨some 25, .none, true, 2, .binOp .add 2 (.tmp 21) (.tmp 24) 2⟩,
          ⟨some 26, .none, true, 34, .move (.tmp 7)⟩,
          ⟨some 27, .none, true, 34, .binOp .quo 34 (.tmp 26) (.const (.int .u64 65536)) 34⟩,
          ⟨some 28, .none, true, 34, .binOp .quo 34 (.tmp 27) (.const (.int .u64 65536)) 34⟩,
          ⟨some 29, .none, true, 34, .binOp .rem 34 (.tmp 28) (.const (.int .u64 65536)) 34⟩,
          ⟨some 30, .none, true, 2, .convert 34 2 (.tmp 29)⟩,
          ⟨some 31, .none, true, 2, .binOp .sub 2 (.tmp 25) (.tmp 30) 2⟩,
          ⟨some 32, .none, true, 2, .call { callee := .value (.func 61), args := #[.tmp 31], argTypes := #[2] }⟩,
          ⟨some 4, .none, true, 2, .assign (.tmp 32)⟩])
      (.keep [0, 4, 5, 6, 7]
      (.region [⟨some 33, .none, true, 2, .move (.tmp 5)⟩,
        ⟨some 34, .none, true, 34, .move (.tmp 7)⟩,
        ⟨some 35, .none, true, 34, .binOp .quo 34 (.tmp 34) (.const (.int .u64 65536)) 34⟩,
        ⟨some 36, .none, true, 34, .binOp .rem 34 (.tmp 35) (.const (.int .u64 65536)) 34⟩,
        ⟨some 37, .none, true, 2, .convert 34 2 (.tmp 36)⟩,
        ⟨some 38, .none, true, 2, .binOp .add 2 (.tmp 33) (.tmp 37) 2⟩,
        ⟨some 39, .none, true, 34, .move (.tmp 7)⟩,
        ⟨some 40, .none, true, 34, .binOp .quo 34 (.tmp 39) (.const (.int .u64 65536)) 34⟩,
        ⟨some 41, .none, true, 34, .binOp .quo 34 (.tmp 40) (.const (.int .u64 65536)) 34⟩,
        ⟨some 42, .none, true, 34, .binOp .quo 34 (.tmp 41) (.const (.int .u64 65536)) 34⟩,
        ⟨some 43, .none, true, 2, .convert 34 2 (.tmp 42)⟩,
        ⟨some 44, .none, true, 2, .binOp .sub 2 (.tmp 38) (.tmp 43) 2⟩,
        ⟨some 45, .none, true, 2, .call { callee := .value (.func 61), args := #[.tmp 44], argTypes := #[2] }⟩,
        ⟨some 5, .none, true, 2, .assign (.tmp 45)⟩]))))))))
  (.keep [0, 4, 5, 6]
  (.region [⟨some 12, .none, true, 3, .move (.tmp 6)⟩,
    ⟨some 13, .none, true, 3, .binOp .add 3 (.tmp 12) (.const (.int .i64 1)) 3⟩,
    ⟨some 6, .none, true, 3, .assign (.tmp 13)⟩]))))
def rc_reeveref1_Sum : RCode :=
  (.seq
    (.region [⟨some 2, .none, true, 2, .assign (.const (.int .i64 0))⟩,
      ⟨some 3, .none, true, 2, .assign (.const (.int .i64 0))⟩])
  (.keep [0]
  (.seq
    (.region [⟨some 4, .none, true, 2, .assign (.const (.int .i64 0))⟩,
      ⟨some 5, .none, true, 2, .assign (.const (.int .i64 0))⟩])
  (.keep [0, 4, 5]
  (.seq
    (.seq
      (.region [⟨some 6, .none, true, 3, .assign (.const (.int .i64 0))⟩])
    (.keep [0, 4, 5, 6]
    (.block 0
      (.loop [0, 4, 5, 6] rc_reeveref1_Suml0))))
  (.seq
    (.region [⟨some 46, .none, true, 2, .move (.tmp 4)⟩,
      ⟨some 47, .none, true, 2, .move (.tmp 5)⟩,
      ⟨some 2, .none, true, 2, .assign (.tmp 46)⟩,
      ⟨some 3, .none, true, 2, .assign (.tmp 47)⟩])
  .ret))))))
theorem t_reeveref1_Sum : FnT Try.prog f_reeveref1_Sum rc_reeveref1_Sum [.tmp 2, .tmp 3] 1 := ⟨⟨[], Try.f52, _, Try.func52, rfl, by kernel_rfl, by kernel_rfl, by kernel_rfl, rfl, by decide⟩, by kernel_rfl⟩
/-- slices.Equal[[]uint64,uint64] -/
abbrev f_slices_Equal_S_uint64_uint64 : FuncId := 53
def rc_slices_Equal_S_uint64_uint64l0 : RCode :=
  (.seq
    (.region [⟨some 14, .none, true, 0, .binOp .lss 3 (.tmp 13) (.tmp 12) 3⟩])
  (.keep [0, 1, 12, 13, 14]
  (.seq
    (.cond (.tmp 14)
      .skip
      (.exit 0))
  (.keep [0, 1, 12, 13]
  (.seq
    (.block 1
      (.seq
        (.region [⟨some 15, .none, true, 3, .move (.tmp 13)⟩,
          ⟨some 5, .none, true, 3, .assign (.tmp 15)⟩])
      (.keep [0, 1, 5, 12, 13]
      (.seq
        (.region [⟨some 16, .none, false, 31, .move (.tmp 0)⟩,
          ⟨some 17, .none, false, 3, .move (.tmp 5)⟩,
          ⟨some 18, .none, false, 0, .indexAddr 31 (.tmp 16) (.tmp 17)⟩,
          ⟨some 19, .none, false, 34, .load 34 (.tmp 18)⟩,
          ⟨some 20, .none, false, 31, .move (.tmp 1)⟩,
          ⟨some 21, .none, false, 3, .move (.tmp 5)⟩,
          ⟨some 22, .none, false, 0, .indexAddr 31 (.tmp 20) (.tmp 21)⟩,
          ⟨some 23, .none, false, 34, .load 34 (.tmp 22)⟩,
          ⟨some 24, .none, true, 4, .binOp .neq 34 (.tmp 19) (.tmp 23) 34⟩])
      (.keep [0, 1, 12, 13, 24]
      (.cond (.tmp 24)
        (.seq
          (.region [⟨some 4, .none, true, 4, .assign (.const (.bool false))⟩])
        .ret)
        .skip))))))
  (.keep [0, 1, 12, 13]
  (.region [⟨some 25, .none, true, 3, .binOp .add 3 (.tmp 13) (.const (.int .i64 1)) 3⟩,
    ⟨some 13, .none, true, 3, .move (.tmp 25)⟩])))))))
def rc_slices_Equal_S_uint64_uint64 : RCode :=
  (.seq
    (.region [⟨some 4, .none, true, 4, .assign (.const (.bool false))⟩])
  (.keep [0, 1]
  (.seq
    (.seq
      (.region [⟨some 6, .none, true, 31, .move (.tmp 0)⟩,
        ⟨some 7, .none, true, 3, .call { callee := .builtin .len, args := #[.tmp 6], argTypes := #[31] }⟩,
        ⟨some 8, .none, true, 31, .move (.tmp 1)⟩,
        ⟨some 9, .none, true, 3, .call { callee := .builtin .len, args := #[.tmp 8], argTypes := #[31] }⟩,
        ⟨some 10, .none, true, 4, .binOp .neq 3 (.tmp 7) (.tmp 9) 3⟩])
    (.keep [0, 1, 10]
    (.cond (.tmp 10)
      (.seq
        (.region [⟨some 4, .none, true, 4, .assign (.const (.bool false))⟩])
      .ret)
      .skip)))
  (.seq
    (.seq
      (.region [⟨some 11, .none, true, 31, .move (.tmp 0)⟩,
        ⟨some 12, .none, true, 3, .call { callee := .builtin .len, args := #[.tmp 11], argTypes := #[31] }⟩,
        ⟨some 13, .none, true, 3, .move (.const (.int .i64 0))⟩])
    (.keep [0, 1, 12, 13]
    (.block 0
      (.loop [0, 1, 12, 13] rc_slices_Equal_S_uint64_uint64l0))))
  (.seq
    (.region [⟨some 4, .none, true, 4, .assign (.const (.bool true))⟩])
  .ret)))))
theorem t_slices_Equal_S_uint64_uint64 : FnT Try.prog f_slices_Equal_S_uint64_uint64 rc_slices_Equal_S_uint64_uint64 [.tmp 4] 2 := ⟨⟨[], Try.f53, _, Try.func53, rfl, by kernel_rfl, by kernel_rfl, by kernel_rfl, rfl, by decide⟩, by kernel_rfl⟩
/-- reeve/geo.Copy -/
abbrev f_geo_Copy : FuncId := 54
def rc_geo_Copy : RCode :=
  (.seq
    (.region [⟨some 1, .none, true, 0, .box 52 (.tmp 0)⟩,
      ⟨some 2, .none, true, 3, .assign (.const (.int .i64 0))⟩])
  (.keep [1]
  (.seq
    (.seq
      (.region [⟨some 3, .none, true, 52, .load 52 (.tmp 1)⟩,
        ⟨some 4, .none, true, 4, .call { callee := .value (.func 45), args := #[.tmp 3], argTypes := #[52] }⟩,
        ⟨some 5, .none, true, 4, .unOp .not 4 (.tmp 4)⟩])
    (.keep [1, 5]
    (.cond (.tmp 5)
      (.seq
        (.region [⟨some 2, .none, true, 3, .assign (.const (.int .i64 0))⟩])
      .ret)
      .skip)))
  (.seq
    (.region [⟨some 6, .none, false, 52, .load 52 (.tmp 1)⟩,
      ⟨some 7, .none, false, 3, .call { callee := .value (.func 62), args := #[.tmp 6], argTypes := #[52] }⟩,
      ⟨some 8, .none, false, 0, .fieldAddr 52 (.tmp 1) 2⟩,
      ⟨some 9, .none, false, 3, .load 3 (.tmp 8)⟩,
      ⟨some 10, .none, false, 3, .binOp .mul 3 (.const (.int .i64 8)) (.tmp 9) 3⟩,
      ⟨some 11, .none, true, 3, .binOp .add 3 (.tmp 7) (.tmp 10) 3⟩,
      ⟨some 2, .none, true, 3, .assign (.tmp 11)⟩])
  .ret))))
theorem t_geo_Copy : FnT Try.prog f_geo_Copy rc_geo_Copy [.tmp 2] 1 := ⟨⟨[], Try.f54, _, Try.func54, rfl, by kernel_rfl, by kernel_rfl, by kernel_rfl, rfl, by decide⟩, by kernel_rfl⟩
/-- reeve/reeveref1.Rows -/
abbrev f_reeveref1_Rows : FuncId := 55
def rc_reeveref1_Rows : RCode :=
  (.seq
    (.region [⟨some 1, .none, true, 0, .box 63 (.tmp 0)⟩,
      ⟨some 2, .none, true, 3, .assign (.const (.int .i64 0))⟩])
  (.keep [1]
  (.seq
    (.seq
      (.region [⟨some 3, .none, true, 63, .load 63 (.tmp 1)⟩,
        ⟨some 4, .none, true, 4, .call { callee := .value (.func 56), args := #[.tmp 3], argTypes := #[63] }⟩,
        ⟨some 5, .none, true, 4, .unOp .not 4 (.tmp 4)⟩])
    (.keep [1, 5]
    (.cond (.tmp 5)
      (.seq
        (.region [⟨some 2, .none, true, 3, .assign (.const (.int .i64 0))⟩])
      .ret)
      .skip)))
  (.seq
    (.region [⟨some 6, .none, true, 63, .load 63 (.tmp 1)⟩,
      ⟨some 7, .none, true, 3, .call { callee := .value (.func 63), args := #[.tmp 6], argTypes := #[63] }⟩,
      ⟨some 8, .none, true, 3, .binOp .quo 3 (.tmp 7) (.const (.int .i64 8)) 3⟩,
      ⟨some 9, .none, true, 3, .binOp .add 3 (.tmp 8) (.const (.int .i64 1)) 3⟩,
      ⟨some 2, .none, true, 3, .assign (.tmp 9)⟩])
  .ret))))
theorem t_reeveref1_Rows : FnT Try.prog f_reeveref1_Rows rc_reeveref1_Rows [.tmp 2] 1 := ⟨⟨[], Try.f55, _, Try.func55, rfl, by kernel_rfl, by kernel_rfl, by kernel_rfl, rfl, by decide⟩, by kernel_rfl⟩
/-- reeve/reeveref1.GoodGeo -/
abbrev f_reeveref1_GoodGeo : FuncId := 56
def rc_reeveref1_GoodGeo : RCode :=
  (.seq
    (.region [⟨some 1, .none, true, 0, .box 63 (.tmp 0)⟩,
      ⟨some 2, .none, true, 4, .assign (.const (.bool false))⟩])
  (.keep [1]
  (.seq
    (.region [⟨some 3, .none, true, 0, .fieldAddr 63 (.tmp 1) 0⟩,
      ⟨some 4, .none, true, 3, .load 3 (.tmp 3)⟩,
      ⟨some 5, .none, true, 4, .binOp .geq 3 (.tmp 4) (.const (.int .i64 1)) 3⟩,
      ⟨some 6, .none, true, 4, .move (.tmp 5)⟩,
      ⟨some 7, .some 6 true, true, 0, .fieldAddr 63 (.tmp 1) 0⟩,
      ⟨some 8, .some 6 true, true, 3, .load 3 (.tmp 7)⟩,
      ⟨some 9, .some 6 true, true, 4, .binOp .leq 3 (.tmp 8) (.const (.int .i64 4)) 3⟩,
      ⟨some 10, .none, true, 4, .pick (.tmp 6) (.tmp 9) (.const (.bool false))⟩,
      ⟨some 11, .none, true, 4, .move (.tmp 10)⟩,
      ⟨some 12, .some 11 true, true, 0, .fieldAddr 63 (.tmp 1) 1⟩,
      ⟨some 13, .some 11 true, true, 3, .load 3 (.tmp 12)⟩,
      ⟨some 14, .some 11 true, true, 0, .fieldAddr 63 (.tmp 1) 0⟩,
      ⟨some 15, .some 11 true, true, 3, .load 3 (.tmp 14)⟩,
      ⟨some 16, .some 11 true, true, 3, .binOp .mul 3 (.const (.int .i64 8)) (.tmp 15) 3⟩,
      ⟨some 17, .some 11 true, true, 4, .binOp .geq 3 (.tmp 13) (.tmp 16) 3⟩,
      ⟨some 18, .none, true, 4, .pick (.tmp 11) (.tmp 17) (.const (.bool false))⟩,
      ⟨some 19, .none, true, 4, .move (.tmp 18)⟩,
      ⟨some 20, .some 19 true, true, 0, .fieldAddr 63 (.tmp 1) 1⟩,
      ⟨some 21, .some 19 true, true, 3, .load 3 (.tmp 20)⟩,
      ⟨some 22, .some 19 true, true, 4, .binOp .leq 3 (.tmp 21) (.const (.int .i64 96)) 3⟩,
      ⟨some 23, .none, true, 4, .pick (.tmp 19) (.tmp 22) (.const (.bool false))⟩,
      ⟨some 24, .none, true, 4, .move (.tmp 23)⟩,
      ⟨some 25, .some 24 true, true, 0, .fieldAddr 63 (.tmp 1) 1⟩,
      ⟨some 26, .some 24 true, true, 3, .load 3 (.tmp 25)⟩,
      ⟨some 27, .some 24 true, true, 3, .binOp .rem 3 (.tmp 26) (.const (.int .i64 8)) 3⟩,
      ⟨some 28, .some 24 true, true, 4, .binOp .eql 3 (.tmp 27) (.const (.int .i64 0)) 3⟩,
      ⟨some 29, .none, true, 4, .pick (.tmp 24) (.tmp 28) (.const (.bool false))⟩,
      ⟨some 30, .none, true, 4, .move (.tmp 29)⟩,
      ⟨some 31, .some 30 true, true, 0, .fieldAddr 63 (.tmp 1) 2⟩,
      ⟨some 32, .some 30 true, true, 3, .load 3 (.tmp 31)⟩,
      ⟨some 33, .some 30 true, true, 0, .fieldAddr 63 (.tmp 1) 0⟩,
      ⟨some 34, .some 30 true, true, 3, .load 3 (.tmp 33)⟩,
      ⟨some 35, .some 30 true, true, 3, .binOp .add 3 (.tmp 34) (.const (.int .i64 2)) 3⟩,
      ⟨some 36, .some 30 true, true, 4, .binOp .geq 3 (.tmp 32) (.tmp 35) 3⟩,
      ⟨some 37, .none, true, 4, .pick (.tmp 30) (.tmp 36) (.const (.bool false))⟩,
      ⟨some 38, .none, true, 4, .move (.tmp 37)⟩,
      ⟨some 39, .some 38 true, true, 0, .fieldAddr 63 (.tmp 1) 2⟩,
      ⟨some 40, .some 38 true, true, 3, .load 3 (.tmp 39)⟩,
      ⟨some 41, .some 38 true, true, 4, .binOp .leq 3 (.tmp 40) (.const (.int .i64 48)) 3⟩,
      ⟨some 42, .none, true, 4, .pick (.tmp 38) (.tmp 41) (.const (.bool false))⟩,
      ⟨some 2, .none, true, 4, .assign (.tmp 42)⟩])
  .ret)))
theorem t_reeveref1_GoodGeo : FnT Try.prog f_reeveref1_GoodGeo rc_reeveref1_GoodGeo [.tmp 2] 1 := ⟨⟨[], Try.f56, _, Try.func56, rfl, by kernel_rfl, by kernel_rfl, by kernel_rfl, rfl, by decide⟩, by kernel_rfl⟩
/-- reeve/reevelaw6.geoOf -/
abbrev f_reevelaw6_geoOf : FuncId := 57
def rc_reevelaw6_geoOf : RCode :=
  (.seq
    (.region [⟨some 1, .none, true, 0, .box 52 (.tmp 0)⟩,
      ⟨some 2, .none, true, 0, .alloc 63⟩])
  (.keep [1, 2]
  (.seq
    (.region [⟨some 3, .none, true, 0, .fieldAddr 52 (.tmp 1) 0⟩,
      ⟨some 4, .none, true, 3, .load 3 (.tmp 3)⟩,
      ⟨some 5, .none, true, 0, .fieldAddr 52 (.tmp 1) 1⟩,
      ⟨some 6, .none, true, 3, .load 3 (.tmp 5)⟩,
      ⟨some 7, .none, true, 0, .fieldAddr 52 (.tmp 1) 2⟩,
      ⟨some 8, .none, true, 3, .load 3 (.tmp 7)⟩,
      ⟨some 9, .none, true, 63, .build 63 #[(0, .tmp 4), (1, .tmp 6), (2, .tmp 8)]⟩,
      ⟨none, .none, true, 0, .store 63 (.tmp 2) (.tmp 9)⟩])
  .ret)))
theorem t_reevelaw6_geoOf : FnT Try.prog f_reevelaw6_geoOf rc_reevelaw6_geoOf [.cell 2 63] 1 := ⟨⟨[], Try.f57, _, Try.func57, rfl, by kernel_rfl, by kernel_rfl, by kernel_rfl, rfl, by decide⟩, by kernel_rfl⟩
/-- reeve/geo.in -/
abbrev f_geo_in : FuncId := 58
def rc_geo_in : RCode :=
  (.seq
    (.region [⟨some 6, .none, true, 4, .assign (.const (.bool false))⟩])
  (.keep [0, 1, 2]
  (.seq
    (.region [⟨some 7, .none, true, 3, .move (.tmp 0)⟩,
      ⟨some 8, .none, true, 3, .move (.tmp 1)⟩,
      ⟨some 9, .none, true, 4, .binOp .geq 3 (.tmp 7) (.tmp 8) 3⟩,
      ⟨some 10, .none, true, 4, .move (.tmp 9)⟩,
      ⟨some 11, .some 10 true, true, 3, .move (.tmp 0)⟩,
      ⟨some 12, .some 10 true, true, 3, .move (.tmp 2)⟩,
      ⟨some 13, .some 10 true, true, 4, .binOp .leq 3 (.tmp 11) (.tmp 12) 3⟩,
      ⟨some 14, .none, true, 4, .pick (.tmp 10) (.tmp 13) (.const (.bool false))⟩,
      ⟨some 6, .none, true, 4, .assign (.tmp 14)⟩])
  .ret)))
theorem t_geo_in : FnT Try.prog f_geo_in rc_geo_in [.tmp 6] 3 := ⟨⟨[], Try.f58, _, Try.func58, rfl, by kernel_rfl, by kernel_rfl, by kernel_rfl, rfl, by decide⟩, by kernel_rfl⟩
/-- math.Trunc -/
abbrev f_math_Trunc : FuncId := 59
def rc_math_Trunc : RCode :=
  (.seq
    (.region [⟨some 2, .none, true, 48, .assign (.const (.float .f64 0))⟩])
  (.keep [0]
  (.seq
    (.cond (.const (.bool true))
      (.seq
        (.region [⟨some 3, .none, true, 48, .move (.tmp 0)⟩,
          ⟨some 4, .none, true, 48, .call { callee := .value (.func 64), args := #[.tmp 3], argTypes := #[48] }⟩,
          ⟨some 2, .none, true, 48, .assign (.tmp 4)⟩])
      .ret)
      .skip)
  (.keep [0]
  (.seq
    (.region [⟨some 5, .none, true, 48, .move (.tmp 0)⟩,
      ⟨some 6, .none, true, 48, .call { callee := .value (.func 65), args := #[.tmp 5], argTypes := #[48] }⟩,
      ⟨some 2, .none, true, 48, .assign (.tmp 6)⟩])
  .ret)))))
theorem t_math_Trunc : FnT Try.prog f_math_Trunc rc_math_Trunc [.tmp 2] 1 := ⟨⟨[], Try.f59, _, Try.func59, rfl, by kernel_rfl, by kernel_rfl, by kernel_rfl, rfl, by decide⟩, by kernel_rfl⟩
/-- math.Signbit -/
abbrev f_math_Signbit : FuncId := 60
def rc_math_Signbit : RCode :=
  (.seq
    (.region [⟨some 2, .none, true, 4, .assign (.const (.bool false))⟩])
  (.keep [0]
  (.seq
    (.region [⟨some 3, .none, true, 48, .move (.tmp 0)⟩,
      ⟨some 4, .none, true, 34, .call { callee := .value (.func 66), args := #[.tmp 3], argTypes := #[48] }⟩,
      ⟨some 5, .none, true, 2, .convert 34 2 (.tmp 4)⟩,
      ⟨some 6, .none, true, 4, .binOp .lss 2 (.tmp 5) (.const (.int .i64 0)) 2⟩,
      ⟨some 2, .none, true, 4, .assign (.tmp 6)⟩])
  .ret)))
theorem t_math_Signbit : FnT Try.prog f_math_Signbit rc_math_Signbit [.tmp 2] 1 := ⟨⟨[], Try.f60, _, Try.func60, rfl, by kernel_rfl, by kernel_rfl, by kernel_rfl, rfl, by decide⟩, by kernel_rfl⟩
/-- reeve/reeveref1.rest -/
abbrev f_reeveref1_rest : FuncId := 61
def rc_reeveref1_rest : RCode :=
  (.seq
    (.region [⟨some 2, .none, true, 2, .assign (.const (.int .i64 0))⟩])
  (.keep [0]
  (.seq
    (.region [⟨some 3, .none, true, 2, .move (.tmp 0)⟩,
      ⟨some 4, .none, true, 2, .binOp .rem 2 (.tmp 3) (.const (.int .i64 1000003)) 2⟩,
      ⟨some 0, .none, true, 2, .assign (.tmp 4)⟩])
  (.keep [0]
  (.seq
    (.seq
      (.region [⟨some 5, .none, true, 2, .move (.tmp 0)⟩,
        ⟨some 6, .none, true, 4, .binOp .lss 2 (.tmp 5) (.const (.int .i64 0)) 2⟩])
    (.keep [0, 6]
    (.cond (.tmp 6)
      (.region [⟨some 7, .none, true, 2, .move (.tmp 0)⟩,
        ⟨some 8, .none, true, 2, .binOp .add 2 (.tmp 7) (.const (.int .i64 1000003)) 2⟩,
        ⟨some 0, .none, true, 2, .assign (.tmp 8)⟩])
      .skip)))
  (.seq
    (.region [⟨some 9, .none, true, 2, .move (.tmp 0)⟩,
      ⟨some 2, .none, true, 2, .assign (.tmp 9)⟩])
  .ret))))))
theorem t_reeveref1_rest : FnT Try.prog f_reeveref1_rest rc_reeveref1_rest [.tmp 2] 1 := ⟨⟨[], Try.f61, _, Try.func61, rfl, by kernel_rfl, by kernel_rfl, by kernel_rfl, rfl, by decide⟩, by kernel_rfl⟩
/-- reeve/geo.thingsAt -/
abbrev f_geo_thingsAt : FuncId := 62
def rc_geo_thingsAt : RCode :=
  (.seq
    (.region [⟨some 1, .none, true, 0, .box 52 (.tmp 0)⟩,
      ⟨some 2, .none, true, 3, .assign (.const (.int .i64 0))⟩])
  (.keep [1]
  (.seq
    (.region [⟨some 3, .none, false, 52, .load 52 (.tmp 1)⟩,
      ⟨some 4, .none, false, 3, .call { callee := .value (.func 67), args := #[.tmp 3], argTypes := #[52] }⟩,
      ⟨some 5, .none, false, 0, .fieldAddr 52 (.tmp 1) 1⟩,
      ⟨some 6, .none, false, 3, .load 3 (.tmp 5)⟩,
      ⟨some 7, .none, false, 3, .binOp .mul 3 (.const (.int .i64 2)) (.tmp 6) 3⟩,
      ⟨some 8, .none, true, 3, .binOp .add 3 (.tmp 4) (.tmp 7) 3⟩,
      ⟨some 2, .none, true, 3, .assign (.tmp 8)⟩])
  .ret)))
theorem t_geo_thingsAt : FnT Try.prog f_geo_thingsAt rc_geo_thingsAt [.tmp 2] 1 := ⟨⟨[], Try.f62, _, Try.func62, rfl, by kernel_rfl, by kernel_rfl, by kernel_rfl, rfl, by decide⟩, by kernel_rfl⟩
/-- reeve/reeveref1.Copy -/
abbrev f_reeveref1_Copy : FuncId := 63
def rc_reeveref1_Copy : RCode :=
  (.seq
    (.region [⟨some 1, .none, true, 0, .box 63 (.tmp 0)⟩,
      ⟨some 2, .none, true, 3, .assign (.const (.int .i64 0))⟩])
  (.keep [1]
  (.seq
    (.seq
      (.region [⟨some 3, .none, true, 63, .load 63 (.tmp 1)⟩,
        ⟨some 4, .none, true, 4, .call { callee := .value (.func 56), args := #[.tmp 3], argTypes := #[63] }⟩,
        ⟨some 5, .none, true, 4, .unOp .not 4 (.tmp 4)⟩])
    (.keep [1, 5]
    (.cond (.tmp 5)
      (.seq
        (.region [⟨some 2, .none, true, 3, .assign (.const (.int .i64 0))⟩])
      .ret)
      .skip)))
  (.seq
    (.region [⟨some 6, .none, false, 63, .load 63 (.tmp 1)⟩,
      ⟨some 7, .none, false, 3, .call { callee := .value (.func 68), args := #[.tmp 6], argTypes := #[63] }⟩,
      ⟨some 8, .none, false, 0, .fieldAddr 63 (.tmp 1) 1⟩,
      ⟨some 9, .none, false, 3, .load 3 (.tmp 8)⟩,
      ⟨some 10, .none, false, 3, .binOp .mul 3 (.const (.int .i64 2)) (.tmp 9) 3⟩,
      ⟨some 11, .none, false, 3, .binOp .add 3 (.tmp 7) (.tmp 10) 3⟩,
      ⟨some 12, .none, false, 0, .fieldAddr 63 (.tmp 1) 2⟩,
      ⟨some 13, .none, false, 3, .load 3 (.tmp 12)⟩,
      ⟨some 14, .none, false, 3, .binOp .mul 3 (.const (.int .i64 8)) (.tmp 13) 3⟩,
      ⟨some 15, .none, true, 3, .binOp .add 3 (.tmp 11) (.tmp 14) 3⟩,
      ⟨some 2, .none, true, 3, .assign (.tmp 15)⟩])
  .ret))))
theorem t_reeveref1_Copy : FnT Try.prog f_reeveref1_Copy rc_reeveref1_Copy [.tmp 2] 1 := ⟨⟨[], Try.f63, _, Try.func63, rfl, by kernel_rfl, by kernel_rfl, by kernel_rfl, rfl, by decide⟩, by kernel_rfl⟩
/-- math.trunc -/
abbrev f_math_trunc : FuncId := 65
def rc_math_trunc : RCode :=
  (.seq
    (.region [⟨some 2, .none, true, 48, .assign (.const (.float .f64 0))⟩])
  (.keep [0]
  (.seq
    (.seq
      (.region [⟨some 5, .none, true, 48, .move (.tmp 0)⟩,
        ⟨some 6, .none, true, 48, .call { callee := .value (.func 69), args := #[.tmp 5], argTypes := #[48] }⟩,
        ⟨some 7, .none, true, 4, .binOp .lss 48 (.tmp 6) (.const (.float .f64 4607182418800017408)) 48⟩])
    (.keep [0, 7]
    (.cond (.tmp 7)
      (.seq
        (.region [⟨some 8, .none, true, 48, .move (.tmp 0)⟩,
          ⟨some 9, .none, true, 48, .call { callee := .value (.func 70), args := #[.const (.float .f64 0), .tmp 8], argTypes := #[48, 48] }⟩,
          ⟨some 2, .none, true, 48, .assign (.tmp 9)⟩])
      .ret)
      .skip)))
  (.seq
    (.region [⟨some 10, .none, true, 48, .move (.tmp 0)⟩,
      ⟨some 11, .none, true, 34, .call { callee := .value (.func 66), args := #[.tmp 10], argTypes := #[48] }⟩,
      ⟨some 3, .none, true, 34, .assign (.tmp 11)⟩])
  (.keep [3]
  (.seq
    (.region [⟨some 12, .none, true, 34, .move (.tmp 3)⟩,
      ⟨some 13, .none, true, 34, .binOp .shr 34 (.tmp 12) (.const (.int .u64 52)) 33⟩,
      ⟨some 14, .none, true, 33, .binOp .and 33 (.tmp 13) (.const (.int .u64 2047)) 33⟩,
      ⟨some 15, .none, true, 33, .binOp .sub 33 (.tmp 14) (.const (.int .u64 1023)) 33⟩,
      ⟨some 4, .none, true, 33, .assign (.tmp 15)⟩])
  (.keep [3, 4]
  (.seq
    (.seq
      (.region [⟨some 16, .none, true, 33, .move (.tmp 4)⟩,
        ⟨some 17, .none, true, 4, .binOp .lss 33 (.tmp 16) (.const (.int .u64 52)) 33⟩])
    (.keep [3, 4, 17]
    (.cond (.tmp 17)
      (.region [⟨some 18, .none, true, 34, .move (.tmp 3)⟩,
        ⟨some 19, .none, true, 33, .move (.tmp 4)⟩,
        ⟨some 20, .none, true, 33, .binOp .sub 33 (.const (.int .u64 52)) (.tmp 19) 33⟩,
        ⟨some 21, .none, true, 34, .binOp .shl 34 (.const (.int .u64 1)) (.tmp 20) 33⟩,
        ⟨some 22, .none, true, 34, .binOp .sub 34 (.tmp 21) (.const (.int .u64 1)) 34⟩,
        ⟨some 23, .none, true, 34, .binOp .andNot 34 (.tmp 18) (.tmp 22) 34⟩,
        ⟨some 3, .none, true, 34, .assign (.tmp 23)⟩])
      .skip)))
  (.seq
    (.region [⟨some 24, .none, true, 34, .move (.tmp 3)⟩,
      ⟨some 25, .none, true, 48, .call { callee := .value (.func 71), args := #[.tmp 24], argTypes := #[34] }⟩,
      ⟨some 2, .none, true, 48, .assign (.tmp 25)⟩])
  .ret)))))))))
theorem t_math_trunc : FnT Try.prog f_math_trunc rc_math_trunc [.tmp 2] 1 := ⟨⟨[], Try.f65, _, Try.func65, rfl, by kernel_rfl, by kernel_rfl, by kernel_rfl, rfl, by decide⟩, by kernel_rfl⟩
/-- reeve/geo.slotsAt -/
abbrev f_geo_slotsAt : FuncId := 67
def rc_geo_slotsAt : RCode :=
  (.seq
    (.region [⟨some 1, .none, true, 0, .box 52 (.tmp 0)⟩,
      ⟨some 2, .none, true, 3, .assign (.const (.int .i64 0))⟩])
  (.keep [1]
  (.seq
    (.region [⟨some 3, .none, true, 0, .fieldAddr 52 (.tmp 1) 0⟩,
      ⟨some 4, .none, true, 3, .load 3 (.tmp 3)⟩,
      ⟨some 5, .none, true, 3, .binOp .mul 3 (.tmp 4) (.const (.int .i64 1208)) 3⟩,
      ⟨some 6, .none, true, 3, .binOp .add 3 (.const (.int .i64 16)) (.tmp 5) 3⟩,
      ⟨some 2, .none, true, 3, .assign (.tmp 6)⟩])
  .ret)))
theorem t_geo_slotsAt : FnT Try.prog f_geo_slotsAt rc_geo_slotsAt [.tmp 2] 1 := ⟨⟨[], Try.f67, _, Try.func67, rfl, by kernel_rfl, by kernel_rfl, by kernel_rfl, rfl, by decide⟩, by kernel_rfl⟩
/-- reeve/reeveref1.slots -/
abbrev f_reeveref1_slots : FuncId := 68
def rc_reeveref1_slots : RCode :=
  (.seq
    (.region [⟨some 1, .none, true, 0, .box 63 (.tmp 0)⟩,
      ⟨some 2, .none, true, 3, .assign (.const (.int .i64 0))⟩])
  (.keep [1]
  (.seq
    (.region [⟨some 3, .none, false, 0, .fieldAddr 63 (.tmp 1) 0⟩,
      ⟨some 4, .none, false, 3, .load 3 (.tmp 3)⟩,
      ⟨some 5, .none, false, 3, .call { callee := .value (.func 72), args := #[], argTypes := #[] }⟩,
      ⟨some 6, .none, true, 3, .binOp .mul 3 (.tmp 4) (.tmp 5) 3⟩,
      ⟨some 7, .none, true, 3, .binOp .add 3 (.const (.int .i64 16)) (.tmp 6) 3⟩,
      ⟨some 2, .none, true, 3, .assign (.tmp 7)⟩])
  .ret)))
theorem t_reeveref1_slots : FnT Try.prog f_reeveref1_slots rc_reeveref1_slots [.tmp 2] 1 := ⟨⟨[], Try.f68, _, Try.func68, rfl, by kernel_rfl, by kernel_rfl, by kernel_rfl, rfl, by decide⟩, by kernel_rfl⟩
/-- math.Abs -/
abbrev f_math_Abs : FuncId := 69
def rc_math_Abs : RCode :=
  (.seq
    (.region [⟨some 2, .none, true, 48, .assign (.const (.float .f64 0))⟩])
  (.keep [0]
  (.seq
    (.region [⟨some 3, .none, true, 48, .move (.tmp 0)⟩,
      ⟨some 4, .none, true, 34, .call { callee := .value (.func 66), args := #[.tmp 3], argTypes := #[48] }⟩,
      ⟨some 5, .none, true, 34, .binOp .andNot 34 (.tmp 4) (.const (.int .u64 9223372036854775808)) 34⟩,
      ⟨some 6, .none, true, 48, .call { callee := .value (.func 71), args := #[.tmp 5], argTypes := #[34] }⟩,
      ⟨some 2, .none, true, 48, .assign (.tmp 6)⟩])
  .ret)))
theorem t_math_Abs : FnT Try.prog f_math_Abs rc_math_Abs [.tmp 2] 1 := ⟨⟨[], Try.f69, _, Try.func69, rfl, by kernel_rfl, by kernel_rfl, by kernel_rfl, rfl, by decide⟩, by kernel_rfl⟩
/-- math.Copysign -/
abbrev f_math_Copysign : FuncId := 70
def rc_math_Copysign : RCode :=
  (.seq
    (.region [⟨some 4, .none, true, 48, .assign (.const (.float .f64 0))⟩])
  (.keep [0, 1]
  (.seq
    (.region [⟨some 5, .none, true, 48, .move (.tmp 0)⟩,
      ⟨some 6, .none, true, 34, .call { callee := .value (.func 66), args := #[.tmp 5], argTypes := #[48] }⟩,
      ⟨some 7, .none, true, 34, .binOp .andNot 34 (.tmp 6) (.const (.int .u64 9223372036854775808)) 34⟩,
      ⟨some 8, .none, true, 48, .move (.tmp 1)⟩,
      ⟨some 9, .none, true, 34, .call { callee := .value (.func 66), args := #[.tmp 8], argTypes := #[48] }⟩,
      ⟨some 10, .none, true, 34, .binOp .and 34 (.tmp 9) (.const (.int .u64 9223372036854775808)) 34⟩,
      ⟨some 11, .none, true, 34, .binOp .or 34 (.tmp 7) (.tmp 10) 34⟩,
      ⟨some 12, .none, true, 48, .call { callee := .value (.func 71), args := #[.tmp 11], argTypes := #[34] }⟩,
      ⟨some 4, .none, true, 48, .assign (.tmp 12)⟩])
  .ret)))
theorem t_math_Copysign : FnT Try.prog f_math_Copysign rc_math_Copysign [.tmp 4] 2 := ⟨⟨[], Try.f70, _, Try.func70, rfl, by kernel_rfl, by kernel_rfl, by kernel_rfl, rfl, by decide⟩, by kernel_rfl⟩
/-- reeve/reeveref1.long -/
abbrev f_reeveref1_long : FuncId := 72
def rc_reeveref1_long : RCode :=
  (.seq
    (.region [⟨some 0, .none, true, 3, .assign (.const (.int .i64 0))⟩])
  (.keep []
  (.seq
    (.region [⟨some 0, .none, true, 3, .assign (.const (.int .i64 1208))⟩])
  .ret)))
theorem t_reeveref1_long : FnT Try.prog f_reeveref1_long rc_reeveref1_long [.tmp 0] 0 := ⟨⟨[], Try.f72, _, Try.func72, rfl, by kernel_rfl, by kernel_rfl, by kernel_rfl, rfl, by decide⟩, by kernel_rfl⟩
def tab : XTab :=
  [(10, rc_reevelaw6_SuperTurned, [.tmp 8], 4),
   (12, rc_reevelaw6_SuperSays, [.tmp 4], 2),
   (13, rc_reevelaw6_SuperFinds, [.tmp 8], 4),
   (15, rc_gauss_Of, [.tmp 4, .tmp 5], 2),
   (16, rc_gauss_Turn, [.tmp 4], 2),
   (20, rc_gauss_Spin, [.tmp 2], 1),
   (21, rc_gauss_Parts, [.tmp 2, .tmp 3, .tmp 4], 1),
   (23, rc_gauss_Word, [.tmp 2, .tmp 3], 1),
   (34, rc_reevelaw6_awake, [.tmp 0], 0),
   (35, rc_super_Put, [.tmp 2], 1),
   (36, rc_super_Get, [.cell 2 54, .tmp 3], 1),
   (37, rc_reevelaw6_words, [.tmp 4], 2),
   (38, rc_geo_Plain, [.cell 0 52], 0),
   (39, rc_geo_Rows, [.tmp 2], 1),
   (40, rc_super_Find, [.cell 2 54, .tmp 3, .tmp 4], 1),
   (41, rc_reeveref1_GetSuper, [.cell 2 65, .tmp 3], 1),
   (42, rc_reeveref1_Find, [.cell 2 65, .tmp 3, .tmp 4], 1),
   (43, rc_reeveref1_PutSuper, [.tmp 2], 1),
   (44, rc_reevelaw6_own, [.cell 2 65], 1),
   (45, rc_geo_Good, [.tmp 2], 1),
   (46, rc_gauss_in, [.tmp 2], 1),
   (48, rc_gauss_rest, [.tmp 2], 1),
   (49, rc_gauss_whole, [.tmp 2, .tmp 3], 1),
   (52, rc_reeveref1_Sum, [.tmp 2, .tmp 3], 1),
   (53, rc_slices_Equal_S_uint64_uint64, [.tmp 4], 2),
   (54, rc_geo_Copy, [.tmp 2], 1),
   (55, rc_reeveref1_Rows, [.tmp 2], 1),
   (56, rc_reeveref1_GoodGeo, [.tmp 2], 1),
   (57, rc_reevelaw6_geoOf, [.cell 2 63], 1),
   (58, rc_geo_in, [.tmp 6], 3),
   (59, rc_math_Trunc, [.tmp 2], 1),
   (60, rc_math_Signbit, [.tmp 2], 1),
   (61, rc_reeveref1_rest, [.tmp 2], 1),
   (62, rc_geo_thingsAt, [.tmp 2], 1),
   (63, rc_reeveref1_Copy, [.tmp 2], 1),
   (65, rc_math_trunc, [.tmp 2], 1),
   (67, rc_geo_slotsAt, [.tmp 2], 1),
   (68, rc_reeveref1_slots, [.tmp 2], 1),
   (69, rc_math_Abs, [.tmp 2], 1),
   (70, rc_math_Copysign, [.tmp 4], 2),
   (72, rc_reeveref1_long, [.tmp 0], 0)]
theorem tabOk : TabOk Try.prog tab :=
  .cons t_reevelaw6_SuperTurned <|
  .cons t_reevelaw6_SuperSays <|
  .cons t_reevelaw6_SuperFinds <|
  .cons t_gauss_Of <|
  .cons t_gauss_Turn <|
  .cons t_gauss_Spin <|
  .cons t_gauss_Parts <|
  .cons t_gauss_Word <|
  .cons t_reevelaw6_awake <|
  .cons t_super_Put <|
  .cons t_super_Get <|
  .cons t_reevelaw6_words <|
  .cons t_geo_Plain <|
  .cons t_geo_Rows <|
  .cons t_super_Find <|
  .cons t_reeveref1_GetSuper <|
  .cons t_reeveref1_Find <|
  .cons t_reeveref1_PutSuper <|
  .cons t_reevelaw6_own <|
  .cons t_geo_Good <|
  .cons t_gauss_in <|
  .cons t_gauss_rest <|
  .cons t_gauss_whole <|
  .cons t_reeveref1_Sum <|
  .cons t_slices_Equal_S_uint64_uint64 <|
  .cons t_geo_Copy <|
  .cons t_reeveref1_Rows <|
  .cons t_reeveref1_GoodGeo <|
  .cons t_reevelaw6_geoOf <|
  .cons t_geo_in <|
  .cons t_math_Trunc <|
  .cons t_math_Signbit <|
  .cons t_reeveref1_rest <|
  .cons t_geo_thingsAt <|
  .cons t_reeveref1_Copy <|
  .cons t_math_trunc <|
  .cons t_geo_slotsAt <|
  .cons t_reeveref1_slots <|
  .cons t_math_Abs <|
  .cons t_math_Copysign <|
  .cons t_reeveref1_long <| .nil

end Go.Proofs.Ytcndbfekcmalmaa.F6
