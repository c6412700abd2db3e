/- Functions of the program made ready for walking, each with its proof; facts of types. Written by gen2.py. -/
import Derived.Test.YtcndbfekcmalmaaProg
import Derived.Test.YtcndbfekcmalmaaAbsD
set_option linter.unusedVariables false
set_option maxRecDepth 100000
namespace Go.Proofs.Ytcndbfekcmalmaa.F6K
open Go Go.Proofs Go.Proofs.YtcndbfekcmalmaaAbs
theorem hm : Try.prog.follows .mixedOrders = true := by kernel_rfl
/-- math.archTrunc (without a body) -/
abbrev f_math_archTrunc : FuncId := 64
/-- math.Float64bits (without a body) -/
abbrev f_math_Float64bits : FuncId := 66
/-- math.Float64frombits (without a body) -/
abbrev f_math_Float64frombits : FuncId := 71
abbrev T_int : TypeId := 3
theorem ts_int : tsize Try.prog 3 = some 1 := by kernel_rfl
theorem tb_int : tbytes Try.prog 3 = some 8 := by kernel_rfl
theorem ta_int : tagg Try.prog 3 = some false := by kernel_rfl
theorem tz_int : zeroFlat Try.prog 3 = some [.int .i64 0] := by kernel_rfl
theorem tv_int : tzero Try.prog 3 = some (.int .i64 0) := by kernel_rfl
theorem tu_int : Try.prog.underlying 3 = some (.int .i64) := by kernel_rfl
abbrev T_bool : TypeId := 4
theorem ts_bool : tsize Try.prog 4 = some 1 := by kernel_rfl
theorem tb_bool : tbytes Try.prog 4 = some 1 := by kernel_rfl
theorem ta_bool : tagg Try.prog 4 = some false := by kernel_rfl
theorem tz_bool : zeroFlat Try.prog 4 = some [.bool false] := by kernel_rfl
theorem tv_bool : tzero Try.prog 4 = some (.bool false) := by kernel_rfl
theorem tu_bool : Try.prog.underlying 4 = some (.bool) := by kernel_rfl
abbrev T_S_uint64 : TypeId := 31
abbrev T_uint64 : TypeId := 34
theorem ts_uint64 : tsize Try.prog 34 = some 1 := by kernel_rfl
theorem tb_uint64 : tbytes Try.prog 34 = some 8 := by kernel_rfl
theorem ta_uint64 : tagg Try.prog 34 = some false := by kernel_rfl
theorem tz_uint64 : zeroFlat Try.prog 34 = some [.int .u64 0] := by kernel_rfl
theorem tv_uint64 : tzero Try.prog 34 = some (.int .u64 0) := by kernel_rfl
theorem tu_uint64 : Try.prog.underlying 34 = some (.int .u64) := by kernel_rfl
theorem ts_S_uint64 : tsize Try.prog 31 = some 1 := by kernel_rfl
theorem tb_S_uint64 : tbytes Try.prog 31 = some 24 := by kernel_rfl
theorem ta_S_uint64 : tagg Try.prog 31 = some false := by kernel_rfl
theorem tz_S_uint64 : zeroFlat Try.prog 31 = some [.slice none 0 0] := by kernel_rfl
theorem tv_S_uint64 : tzero Try.prog 31 = some (.slice none 0 0) := by kernel_rfl
theorem tu_S_uint64 : Try.prog.underlying 31 = some (.slice 34) := by kernel_rfl
abbrev T_geo_Geo : TypeId := 52
theorem te_geo_Geo : eqOk Try.prog 52 = some [.int .i64, .int .i64, .int .i64] := by kernel_rfl
theorem ts_geo_Geo : tsize Try.prog 52 = some 3 := by kernel_rfl
theorem tb_geo_Geo : tbytes Try.prog 52 = some 24 := by kernel_rfl
theorem ta_geo_Geo : tagg Try.prog 52 = some true := by kernel_rfl
theorem tz_geo_Geo : zeroFlat Try.prog 52 = some [.int .i64 0, .int .i64 0, .int .i64 0] := by kernel_rfl
theorem tv_geo_Geo : tzero Try.prog 52 = some (.agg #[.int .i64 0, .int .i64 0, .int .i64 0]) := by kernel_rfl
theorem tp_geo_Geo : tplaces Try.prog 52 = some [(0, 1), (1, 1), (2, 1)] := by kernel_rfl
theorem tf_geo_Geo_Threads : tfield Try.prog 52 0 = some (3, 0) := by kernel_rfl
theorem tg_geo_Geo_Threads : tfield' Try.prog 52 0 = some (3, 0) := by kernel_rfl
theorem tf_geo_Geo_Slots : tfield Try.prog 52 1 = some (3, 1) := by kernel_rfl
theorem tg_geo_Geo_Slots : tfield' Try.prog 52 1 = some (3, 1) := by kernel_rfl
theorem tf_geo_Geo_Things : tfield Try.prog 52 2 = some (3, 2) := by kernel_rfl
theorem tg_geo_Geo_Things : tfield' Try.prog 52 2 = some (3, 2) := by kernel_rfl
abbrev T_super_Super : TypeId := 54
theorem te_super_Super : eqOk Try.prog 54 = some [.int .i64, .int .i64, .int .i64, .int .u64] := by kernel_rfl
theorem ts_super_Super : tsize Try.prog 54 = some 4 := by kernel_rfl
theorem tb_super_Super : tbytes Try.prog 54 = some 32 := by kernel_rfl
theorem ta_super_Super : tagg Try.prog 54 = some true := by kernel_rfl
theorem tz_super_Super : zeroFlat Try.prog 54 = some [.int .i64 0, .int .i64 0, .int .i64 0, .int .u64 0] := by kernel_rfl
theorem tv_super_Super : tzero Try.prog 54 = some (.agg #[.int .i64 0, .int .i64 0, .int .i64 0, .int .u64 0]) := by kernel_rfl
theorem tp_super_Super : tplaces Try.prog 54 = some [(0, 3), (3, 1)] := by kernel_rfl
theorem tf_super_Super_Geo : tfield Try.prog 54 0 = some (52, 0) := by kernel_rfl
theorem tg_super_Super_Geo : tfield' Try.prog 54 0 = some (52, 0) := by kernel_rfl
theorem tf_super_Super_Boot : tfield Try.prog 54 1 = some (34, 3) := by kernel_rfl
theorem tg_super_Super_Boot : tfield' Try.prog 54 1 = some (34, 3) := by kernel_rfl
abbrev T_int64 : TypeId := 2
theorem ts_int64 : tsize Try.prog 2 = some 1 := by kernel_rfl
theorem tb_int64 : tbytes Try.prog 2 = some 8 := by kernel_rfl
theorem ta_int64 : tagg Try.prog 2 = some false := by kernel_rfl
theorem tz_int64 : zeroFlat Try.prog 2 = some [.int .i64 0] := by kernel_rfl
theorem tv_int64 : tzero Try.prog 2 = some (.int .i64 0) := by kernel_rfl
theorem tu_int64 : Try.prog.underlying 2 = some (.int .i64) := by kernel_rfl
abbrev T_complex128 : TypeId := 23
theorem ts_complex128 : tsize Try.prog 23 = some 1 := by kernel_rfl
theorem tb_complex128 : tbytes Try.prog 23 = some 16 := by kernel_rfl
theorem ta_complex128 : tagg Try.prog 23 = some false := by kernel_rfl
theorem tz_complex128 : zeroFlat Try.prog 23 = some [.complex .f64 0 0] := by kernel_rfl
theorem tv_complex128 : tzero Try.prog 23 = some (.complex .f64 0 0) := by kernel_rfl
theorem tu_complex128 : Try.prog.underlying 23 = some (.complex .f64) := by kernel_rfl
abbrev T_float64 : TypeId := 48
theorem ts_float64 : tsize Try.prog 48 = some 1 := by kernel_rfl
theorem tb_float64 : tbytes Try.prog 48 = some 8 := by kernel_rfl
theorem ta_float64 : tagg Try.prog 48 = some false := by kernel_rfl
theorem tz_float64 : zeroFlat Try.prog 48 = some [.float .f64 0] := by kernel_rfl
theorem tv_float64 : tzero Try.prog 48 = some (.float .f64 0) := by kernel_rfl
theorem tu_float64 : Try.prog.underlying 48 = some (.float .f64) := by kernel_rfl
abbrev T_uint16 : TypeId := 32
theorem ts_uint16 : tsize Try.prog 32 = some 1 := by kernel_rfl
theorem tb_uint16 : tbytes Try.prog 32 = some 2 := by kernel_rfl
theorem ta_uint16 : tagg Try.prog 32 = some false := by kernel_rfl
theorem tz_uint16 : zeroFlat Try.prog 32 = some [.int .u16 0] := by kernel_rfl
theorem tv_uint16 : tzero Try.prog 32 = some (.int .u16 0) := by kernel_rfl
theorem tu_uint16 : Try.prog.underlying 32 = some (.int .u16) := by kernel_rfl
abbrev T_uint : TypeId := 33
theorem ts_uint : tsize Try.prog 33 = some 1 := by kernel_rfl
theorem tb_uint : tbytes Try.prog 33 = some 8 := by kernel_rfl
theorem ta_uint : tagg Try.prog 33 = some false := by kernel_rfl
theorem tz_uint : zeroFlat Try.prog 33 = some [.int .u64 0] := by kernel_rfl
theorem tv_uint : tzero Try.prog 33 = some (.int .u64 0) := by kernel_rfl
theorem tu_uint : Try.prog.underlying 33 = some (.int .u64) := by kernel_rfl
theorem bl_S_uint64 : ∀ (ty : TypeId) (ev : Operand → Value) (g : AMem) (n : Nat) (len : Nat) (parts : Array (Nat × Operand)), len * 1 ≤ 16777216 → aOp Try.prog ty ev g n (.buildSlice 31 len parts) = (fillS 1 (zeroRow [.int .u64 0] len) (parts.toList.map fun p => (p.1, ev p.2))).map fun cs => (.slice (some ⟨n, 0, none⟩) len 1, .new (.row cs true)) := fun ty ev g n len parts hb => aOp_buildL tu_S_uint64 tz_uint64 ts_uint64 rfl ty ev g n len parts hb
theorem ap_S_uint64 : ∀ (g : AMem) (n : Nat) (s x : Value), aAppend Try.prog g n 31 s x = appR g n 0 8 s (aRead g 1 x) := inst_append tu_S_uint64 ts_uint64 tb_uint64 tv_uint64 rfl
theorem mk_S_uint64 : ∀ (n : Nat) (k k' : IntKind) (l c : Int), aMake Try.prog n 31 (.int k l) (.int k' c) = if 0 ≤ l ∧ l ≤ c ∧ c ≤ 70368744177664 ∧ 8 * c.toNat ≤ 70368744177664 then some (.slice (some ⟨n, 0, none⟩) l.toNat 1, .new (.row (zeroRow [.int .u64 0] l.toNat) true)) else none := inst_make tu_S_uint64 ts_uint64 tb_uint64 tv_uint64 rfl rfl
theorem sl_S_uint64 : ∀ (ty : TypeId) (ev : Operand → Value) (g : AMem) (n : Nat) (x : Operand) (lo hi : Option Operand), aOp Try.prog ty ev g n (.slice 31 x lo hi none) = (slR 1 (ev x) (lo.map ev) (hi.map ev)).map fun v => (v, .none) := aOp_sliceS tu_S_uint64 ts_uint64
theorem cp_S_uint64 : ∀ (g : AMem) (d s : Value), aCopy Try.prog g 31 d s = cpR g 1 d (aRead g 1 s) := aCopy_eq tu_S_uint64 ts_uint64
theorem beq_geo_Geo : ∀ (xo yo : Operand) (xs ys : List Value), fitsB [.int .i64, .int .i64, .int .i64] xs = true → fitsB [.int .i64, .int .i64, .int .i64] ys = true → aBin Try.prog .eql 52 xo yo (.agg xs.toArray) (.agg ys.toArray) = some (.bool (cellsEq xs ys)) := fun _ _ _ _ hx hy => bin_eql_agg te_geo_Geo ta_geo_Geo hx hy
theorem bne_geo_Geo : ∀ (xo yo : Operand) (xs ys : List Value), fitsB [.int .i64, .int .i64, .int .i64] xs = true → fitsB [.int .i64, .int .i64, .int .i64] ys = true → aBin Try.prog .neq 52 xo yo (.agg xs.toArray) (.agg ys.toArray) = some (.bool (!cellsEq xs ys)) := fun _ _ _ _ hx hy => bin_neq_agg te_geo_Geo ta_geo_Geo hx hy
theorem bs_geo_Geo : ∀ (ty : TypeId) (ev : Operand → Value) (g : AMem) (n : Nat) (parts : Array (Nat × Operand)), aOp Try.prog ty ev g n (.build 52 parts) = (fillP [(0, 1), (1, 1), (2, 1)] [.int .i64 0, .int .i64 0, .int .i64 0] (parts.toList.map fun p => (p.1, ev p.2))).map fun cs => (.agg cs.toArray, .none) := aOp_buildS tz_geo_Geo tp_geo_Geo
theorem beq_super_Super : ∀ (xo yo : Operand) (xs ys : List Value), fitsB [.int .i64, .int .i64, .int .i64, .int .u64] xs = true → fitsB [.int .i64, .int .i64, .int .i64, .int .u64] ys = true → aBin Try.prog .eql 54 xo yo (.agg xs.toArray) (.agg ys.toArray) = some (.bool (cellsEq xs ys)) := fun _ _ _ _ hx hy => bin_eql_agg te_super_Super ta_super_Super hx hy
theorem bne_super_Super : ∀ (xo yo : Operand) (xs ys : List Value), fitsB [.int .i64, .int .i64, .int .i64, .int .u64] xs = true → fitsB [.int .i64, .int .i64, .int .i64, .int .u64] ys = true → aBin Try.prog .neq 54 xo yo (.agg xs.toArray) (.agg ys.toArray) = some (.bool (!cellsEq xs ys)) := fun _ _ _ _ hx hy => bin_neq_agg te_super_Super ta_super_Super hx hy
theorem bs_super_Super : ∀ (ty : TypeId) (ev : Operand → Value) (g : AMem) (n : Nat) (parts : Array (Nat × Operand)), aOp Try.prog ty ev g n (.build 54 parts) = (fillP [(0, 3), (3, 1)] [.int .i64 0, .int .i64 0, .int .i64 0, .int .u64 0] (parts.toList.map fun p => (p.1, ev p.2))).map fun cs => (.agg cs.toArray, .none) := aOp_buildS tz_super_Super tp_super_Super
theorem q_int64 : (tsize Try.prog 2 = some 1) ∧ (tagg Try.prog 2 = some false) ∧ (zeroFlat Try.prog 2 = some [.int .i64 0]) ∧ (Try.prog.underlying 2 = some (.int .i64)) := ⟨ts_int64, ta_int64, tz_int64, tu_int64⟩
theorem q_int : (tsize Try.prog 3 = some 1) ∧ (tagg Try.prog 3 = some false) ∧ (zeroFlat Try.prog 3 = some [.int .i64 0]) ∧ (Try.prog.underlying 3 = some (.int .i64)) := ⟨ts_int, ta_int, tz_int, tu_int⟩
theorem q_bool : (tsize Try.prog 4 = some 1) ∧ (tagg Try.prog 4 = some false) ∧ (zeroFlat Try.prog 4 = some [.bool false]) ∧ (Try.prog.underlying 4 = some (.bool)) := ⟨ts_bool, ta_bool, tz_bool, tu_bool⟩
theorem q_complex128 : (tsize Try.prog 23 = some 1) ∧ (tagg Try.prog 23 = some false) ∧ (zeroFlat Try.prog 23 = some [.complex .f64 0 0]) ∧ (Try.prog.underlying 23 = some (.complex .f64)) := ⟨ts_complex128, ta_complex128, tz_complex128, tu_complex128⟩
theorem q_S_uint64 : (tsize Try.prog 31 = some 1) ∧ (tagg Try.prog 31 = some false) ∧ (zeroFlat Try.prog 31 = some [.slice none 0 0]) ∧ (Try.prog.underlying 31 = some (.slice 34)) ∧ (∀ (ty : TypeId) (ev : Operand → Value) (g : AMem) (n : Nat) (len : Nat) (parts : Array (Nat × Operand)), len * 1 ≤ 16777216 → aOp Try.prog ty ev g n (.buildSlice 31 len parts) = (fillS 1 (zeroRow [.int .u64 0] len) (parts.toList.map fun p => (p.1, ev p.2))).map fun cs => (.slice (some ⟨n, 0, none⟩) len 1, .new (.row cs true))) ∧ (∀ (g : AMem) (n : Nat) (s x : Value), aAppend Try.prog g n 31 s x = appR g n 0 8 s (aRead g 1 x)) ∧ (∀ (n : Nat) (k k' : IntKind) (l c : Int), aMake Try.prog n 31 (.int k l) (.int k' c) = if 0 ≤ l ∧ l ≤ c ∧ c ≤ 70368744177664 ∧ 8 * c.toNat ≤ 70368744177664 then some (.slice (some ⟨n, 0, none⟩) l.toNat 1, .new (.row (zeroRow [.int .u64 0] l.toNat) true)) else none) ∧ (∀ (ty : TypeId) (ev : Operand → Value) (g : AMem) (n : Nat) (x : Operand) (lo hi : Option Operand), aOp Try.prog ty ev g n (.slice 31 x lo hi none) = (slR 1 (ev x) (lo.map ev) (hi.map ev)).map fun v => (v, .none)) ∧ (∀ (g : AMem) (d s : Value), aCopy Try.prog g 31 d s = cpR g 1 d (aRead g 1 s)) := ⟨ts_S_uint64, ta_S_uint64, tz_S_uint64, tu_S_uint64, bl_S_uint64, ap_S_uint64, mk_S_uint64, sl_S_uint64, cp_S_uint64⟩
theorem q_uint16 : (tsize Try.prog 32 = some 1) ∧ (tagg Try.prog 32 = some false) ∧ (zeroFlat Try.prog 32 = some [.int .u16 0]) ∧ (Try.prog.underlying 32 = some (.int .u16)) := ⟨ts_uint16, ta_uint16, tz_uint16, tu_uint16⟩
theorem q_uint : (tsize Try.prog 33 = some 1) ∧ (tagg Try.prog 33 = some false) ∧ (zeroFlat Try.prog 33 = some [.int .u64 0]) ∧ (Try.prog.underlying 33 = some (.int .u64)) := ⟨ts_uint, ta_uint, tz_uint, tu_uint⟩
theorem q_uint64 : (tsize Try.prog 34 = some 1) ∧ (tagg Try.prog 34 = some false) ∧ (zeroFlat Try.prog 34 = some [.int .u64 0]) ∧ (Try.prog.underlying 34 = some (.int .u64)) := ⟨ts_uint64, ta_uint64, tz_uint64, tu_uint64⟩
theorem q_float64 : (tsize Try.prog 48 = some 1) ∧ (tagg Try.prog 48 = some false) ∧ (zeroFlat Try.prog 48 = some [.float .f64 0]) ∧ (Try.prog.underlying 48 = some (.float .f64)) := ⟨ts_float64, ta_float64, tz_float64, tu_float64⟩
theorem q_geo_Geo : (tsize Try.prog 52 = some 3) ∧ (tagg Try.prog 52 = some true) ∧ (zeroFlat Try.prog 52 = some [.int .i64 0, .int .i64 0, .int .i64 0]) ∧ (tplaces Try.prog 52 = some [(0, 1), (1, 1), (2, 1)]) ∧ (tfield Try.prog 52 0 = some (3, 0)) ∧ (tfield' Try.prog 52 0 = some (3, 0)) ∧ (tfield Try.prog 52 1 = some (3, 1)) ∧ (tfield' Try.prog 52 1 = some (3, 1)) ∧ (tfield Try.prog 52 2 = some (3, 2)) ∧ (tfield' Try.prog 52 2 = some (3, 2)) ∧ (∀ (ty : TypeId) (ev : Operand → Value) (g : AMem) (n : Nat) (parts : Array (Nat × Operand)), aOp Try.prog ty ev g n (.build 52 parts) = (fillP [(0, 1), (1, 1), (2, 1)] [.int .i64 0, .int .i64 0, .int .i64 0] (parts.toList.map fun p => (p.1, ev p.2))).map fun cs => (.agg cs.toArray, .none)) := ⟨ts_geo_Geo, ta_geo_Geo, tz_geo_Geo, tp_geo_Geo, tf_geo_Geo_Threads, tg_geo_Geo_Threads, tf_geo_Geo_Slots, tg_geo_Geo_Slots, tf_geo_Geo_Things, tg_geo_Geo_Things, bs_geo_Geo⟩
theorem q_super_Super : (tsize Try.prog 54 = some 4) ∧ (tagg Try.prog 54 = some true) ∧ (zeroFlat Try.prog 54 = some [.int .i64 0, .int .i64 0, .int .i64 0, .int .u64 0]) ∧ (tplaces Try.prog 54 = some [(0, 3), (3, 1)]) ∧ (tfield Try.prog 54 0 = some (52, 0)) ∧ (tfield' Try.prog 54 0 = some (52, 0)) ∧ (tfield Try.prog 54 1 = some (34, 3)) ∧ (tfield' Try.prog 54 1 = some (34, 3)) ∧ (∀ (ty : TypeId) (ev : Operand → Value) (g : AMem) (n : Nat) (parts : Array (Nat × Operand)), aOp Try.prog ty ev g n (.build 54 parts) = (fillP [(0, 3), (3, 1)] [.int .i64 0, .int .i64 0, .int .i64 0, .int .u64 0] (parts.toList.map fun p => (p.1, ev p.2))).map fun cs => (.agg cs.toArray, .none)) := ⟨ts_super_Super, ta_super_Super, tz_super_Super, tp_super_Super, tf_super_Super_Geo, tg_super_Super_Geo, tf_super_Super_Boot, tg_super_Super_Boot, bs_super_Super⟩
/-- reeve/reevelaw6.SuperKnown -/
abbrev f_reevelaw6_SuperKnown : FuncId := 11
def rc_reevelaw6_SuperKnownl0 : RCode :=
  (.seq
    (.seq
      (.region [⟨some 53, .none, true, 3, .move (.tmp 9)⟩,
        ⟨some 54, .none, true, 4, .binOp .lss 3 (.tmp 53) (.const (.int .i64 8)) 3⟩])
    (.keep [1, 3, 6, 7, 8, 9, 54]
    (.cond (.tmp 54)
      .skip
      (.exit 0))))
  (.seq
    (.block 1
      (.region [⟨some 57, .none, false, 31, .move (.tmp 8)⟩,
        ⟨some 58, .none, false, 3, .move (.tmp 9)⟩,
        ⟨some 59, .none, false, 31, .move (.tmp 8)⟩,
        ⟨some 60, .none, false, 3, .move (.tmp 7)⟩,
        ⟨some 61, .none, false, 3, .binOp .sub 3 (.tmp 60) (.const (.int .i64 8)) 3⟩,
        ⟨some 62, .none, false, 3, .move (.tmp 9)⟩,
        ⟨some 63, .none, false, 3, .binOp .add 3 (.tmp 61) (.tmp 62) 3⟩,
        ⟨some 64, .none, false, 31, .move (.tmp 1)⟩,
        ⟨some 65, .none, false, 3, .move (.tmp 9)⟩,
        ⟨some 66, .none, false, 0, .indexAddr 31 (.tmp 64) (.tmp 65)⟩,
        ⟨some 67, .none, false, 34, .load 34 (.tmp 66)⟩,
        ⟨some 68, .none, false, 31, .move (.tmp 1)⟩,
        ⟨some 69, .none, false, 3, .move (.tmp 9)⟩,
        ⟨some 70, .none, false, 0, .indexAddr 31 (.tmp 68) (.tmp 69)⟩,
        ⟨some 71, .none, false, 34, .load 34 (.tmp 70)⟩,
        ⟨some 72, .none, true, 0, .indexAddr 31 (.tmp 57) (.tmp 58)⟩,
        ⟨none, .none, true, 0, .store 34 (.tmp 72) (.tmp 67)⟩,
        ⟨some 73, .none, true, 0, .indexAddr 31 (.tmp 59) (.tmp 63)⟩,
        ⟨none, .none, true, 0, .store 34 (.tmp 73) (.tmp 71)⟩]))
  (.keep [1, 3, 6, 7, 8, 9]
  (.region [⟨some 55, .none, true, 3, .move (.tmp 9)⟩,
    ⟨some 56, .none, true, 3, .binOp .add 3 (.tmp 55) (.const (.int .i64 1)) 3⟩,
    ⟨some 9, .none, true, 3, .assign (.tmp 56)⟩]))))
def rc_reevelaw6_SuperKnown : RCode :=
  (.seq
    (.region [⟨some 0, .none, true, 4, .assign (.const (.bool false))⟩])
  (.keep []
  (.seq
    (.seq
      (.region [⟨some 22, .none, true, 4, .call { callee := .value (.func 34), args := #[], argTypes := #[] }⟩,
        ⟨some 23, .none, true, 4, .unOp .not 4 (.tmp 22)⟩])
    (.keep [23]
    (.cond (.tmp 23)
      (.seq
        (.region [⟨some 0, .none, true, 4, .assign (.const (.bool false))⟩])
      .ret)
      .skip)))
  (.seq
    (.region [⟨some 24, .none, true, 52, .call { callee := .value (.func 38), args := #[], argTypes := #[] }⟩,
      ⟨some 25, .none, true, 54, .build 54 #[(0, .tmp 24), (1, .const (.int .u64 7))]⟩,
      ⟨some 26, .none, true, 31, .call { callee := .value (.func 35), args := #[.tmp 25], argTypes := #[54] }⟩,
      ⟨some 1, .none, true, 31, .assign (.tmp 26)⟩])
  (.keep [1]
  (.seq
    (.seq
      (.region [⟨some 27, .none, true, 31, .move (.tmp 1)⟩,
        ⟨some 28, .none, true, 3, .call { callee := .builtin .len, args := #[.tmp 27], argTypes := #[31] }⟩,
        ⟨some 29, .none, true, 4, .binOp .neq 3 (.tmp 28) (.const (.int .i64 8)) 3⟩])
    (.keep [1, 29]
    (.cond (.tmp 29)
      (.seq
        (.region [⟨some 0, .none, true, 4, .assign (.const (.bool false))⟩])
      .ret)
      .skip)))
  (.seq
    (.region [⟨some 31, .none, true, 31, .move (.tmp 1)⟩,
      ⟨some 32, .none, true, 31, .slice 31 (.tmp 31) none (some (.const (.int .i64 7))) none⟩,
      ⟨some 33, .none, true, 56, .call { callee := .value (.func 36), args := #[.tmp 32], argTypes := #[31] }⟩,
      ⟨some 30, .none, true, 56, .move (.tmp 33)⟩,
      ⟨some 34, .none, true, 54, .extract (.tmp 30) 0⟩,
      ⟨some 35, .none, true, 4, .extract (.tmp 30) 1⟩,
      ⟨some 2, .none, true, 0, .alloc 54⟩,
      ⟨none, .none, true, 0, .store 54 (.tmp 2) (.tmp 34)⟩,
      ⟨some 3, .none, true, 4, .assign (.tmp 35)⟩])
  (.keep [1, 3]
  (.seq
    (.region [⟨some 36, .none, true, 31, .buildSlice 31 0 #[]⟩,
      ⟨some 37, .none, true, 31, .move (.tmp 1)⟩,
      ⟨some 38, .none, true, 31, .call { callee := .builtin .append, args := #[.tmp 36, .tmp 37], argTypes := #[31, 31] }⟩,
      ⟨some 4, .none, true, 31, .assign (.tmp 38)⟩])
  (.keep [1, 3, 4]
  (.seq
    (.region [⟨some 39, .none, true, 31, .move (.tmp 4)⟩,
      ⟨some 40, .none, true, 0, .indexAddr 31 (.tmp 39) (.const (.int .i64 4))⟩,
      ⟨none, .none, true, 0, .store 34 (.tmp 40) (.const (.int .u64 8))⟩])
  (.keep [1, 3, 4]
  (.seq
    (.region [⟨some 42, .none, true, 31, .move (.tmp 4)⟩,
      ⟨some 43, .none, true, 56, .call { callee := .value (.func 36), args := #[.tmp 42], argTypes := #[31] }⟩,
      ⟨some 41, .none, true, 56, .move (.tmp 43)⟩,
      ⟨some 44, .none, true, 54, .extract (.tmp 41) 0⟩,
      ⟨some 45, .none, true, 4, .extract (.tmp 41) 1⟩,
      ⟨some 5, .none, true, 0, .alloc 54⟩,
      ⟨none, .none, true, 0, .store 54 (.tmp 5) (.tmp 44)⟩,
      ⟨some 6, .none, true, 4, .assign (.tmp 45)⟩])
  (.keep [1, 3, 6]
  (.seq
    (.region [⟨some 46, .none, true, 52, .call { callee := .value (.func 38), args := #[], argTypes := #[] }⟩,
      ⟨some 47, .none, true, 3, .call { callee := .value (.func 39), args := #[.tmp 46], argTypes := #[52] }⟩,
      ⟨some 48, .none, true, 3, .binOp .mul 3 (.const (.int .i64 8)) (.tmp 47) 3⟩,
      ⟨some 7, .none, true, 3, .assign (.tmp 48)⟩])
  (.keep [1, 3, 6, 7]
  (.seq
    (.seq
      (.region [⟨some 49, .none, true, 3, .move (.tmp 7)⟩,
        ⟨some 50, .none, true, 4, .binOp .lss 3 (.tmp 49) (.const (.int .i64 16)) 3⟩])
    (.keep [1, 3, 6, 7, 50]
    (.cond (.tmp 50)
      (.seq
        (.region [⟨some 0, .none, true, 4, .assign (.const (.bool false))⟩])
      .ret)
      .skip)))
  (.seq
    (.region [⟨some 51, .none, true, 3, .move (.tmp 7)⟩,
      ⟨some 52, .none, true, 31, .makeSlice 31 (.tmp 51) (.tmp 51)⟩,
      ⟨some 8, .none, true, 31, .assign (.tmp 52)⟩])
  (.keep [1, 3, 6, 7, 8]
  (.seq
    (.seq
      (.region [⟨some 9, .none, true, 3, .assign (.const (.int .i64 0))⟩])
    (.keep [1, 3, 6, 7, 8, 9]
    (.block 0
      (.loop [1, 3, 6, 7, 8, 9] rc_reevelaw6_SuperKnownl0))))
  (.seq
    (.region [⟨some 75, .none, true, 31, .move (.tmp 8)⟩,
      ⟨some 76, .none, true, 61, .call { callee := .value (.func 40), args := #[.tmp 75], argTypes := #[31] }⟩,
      ⟨some 74, .none, true, 61, .move (.tmp 76)⟩,
      ⟨some 77, .none, true, 54, .extract (.tmp 74) 0⟩,
      ⟨some 78, .none, true, 4, .extract (.tmp 74) 1⟩,
      ⟨some 79, .none, true, 4, .extract (.tmp 74) 2⟩,
      ⟨some 10, .none, true, 0, .alloc 54⟩,
      ⟨none, .none, true, 0, .store 54 (.tmp 10) (.tmp 77)⟩,
      ⟨some 11, .none, true, 4, .assign (.tmp 78)⟩,
      ⟨some 12, .none, true, 4, .assign (.tmp 79)⟩])
  (.keep [3, 6, 7, 8, 10, 11, 12]
  (.seq
    (.region [⟨some 80, .none, true, 31, .move (.tmp 8)⟩,
      ⟨some 81, .none, true, 0, .indexAddr 31 (.tmp 80) (.const (.int .i64 3))⟩,
      ⟨none, .none, true, 0, .store 34 (.tmp 81) (.const (.int .u64 0))⟩])
  (.keep [3, 6, 7, 8, 10, 11, 12]
  (.seq
    (.region [⟨some 83, .none, true, 31, .move (.tmp 8)⟩,
      ⟨some 84, .none, true, 61, .call { callee := .value (.func 40), args := #[.tmp 83], argTypes := #[31] }⟩,
      ⟨some 82, .none, true, 61, .move (.tmp 84)⟩,
      ⟨some 85, .none, true, 54, .extract (.tmp 82) 0⟩,
      ⟨some 86, .none, true, 4, .extract (.tmp 82) 1⟩,
      ⟨some 87, .none, true, 4, .extract (.tmp 82) 2⟩,
      ⟨some 13, .none, true, 0, .alloc 54⟩,
      ⟨none, .none, true, 0, .store 54 (.tmp 13) (.tmp 85)⟩,
      ⟨some 14, .none, true, 4, .assign (.tmp 86)⟩,
      ⟨some 15, .none, true, 4, .assign (.tmp 87)⟩])
  (.keep [3, 6, 7, 8, 10, 11, 12, 13, 14, 15]
  (.seq
    (.region [⟨some 89, .none, true, 31, .move (.tmp 8)⟩,
      ⟨some 90, .none, true, 3, .move (.tmp 7)⟩,
      ⟨some 91, .none, true, 3, .binOp .sub 3 (.tmp 90) (.const (.int .i64 8)) 3⟩,
      ⟨some 92, .none, true, 31, .slice 31 (.tmp 89) none (some (.tmp 91)) none⟩,
      ⟨some 93, .none, true, 61, .call { callee := .value (.func 40), args := #[.tmp 92], argTypes := #[31] }⟩,
      ⟨some 88, .none, true, 61, .move (.tmp 93)⟩,
      ⟨some 94, .none, true, 54, .extract (.tmp 88) 0⟩,
      ⟨some 95, .none, true, 4, .extract (.tmp 88) 1⟩,
      ⟨some 96, .none, true, 4, .extract (.tmp 88) 2⟩,
      ⟨some 16, .none, true, 0, .alloc 54⟩,
      ⟨none, .none, true, 0, .store 54 (.tmp 16) (.tmp 94)⟩,
      ⟨some 17, .none, true, 4, .assign (.tmp 95)⟩,
      ⟨some 18, .none, true, 4, .assign (.tmp 96)⟩])
  (.keep [3, 6, 10, 11, 12, 13, 14, 15, 17, 18]
  (.seq
    (.region [⟨some 98, .none, true, 61, .call { callee := .value (.func 40), args := #[.const (.slice none 0 0)], argTypes := #[31] }⟩,
      ⟨some 97, .none, true, 61, .move (.tmp 98)⟩,
      ⟨some 99, .none, true, 54, .extract (.tmp 97) 0⟩,
      ⟨some 100, .none, true, 4, .extract (.tmp 97) 1⟩,
      ⟨some 101, .none, true, 4, .extract (.tmp 97) 2⟩,
      ⟨some 19, .none, true, 0, .alloc 54⟩,
      ⟨none, .none, true, 0, .store 54 (.tmp 19) (.tmp 99)⟩,
      ⟨some 20, .none, true, 4, .assign (.tmp 100)⟩,
      ⟨some 21, .none, true, 4, .assign (.tmp 101)⟩])
  (.keep [3, 6, 10, 11, 12, 13, 14, 15, 17, 18, 20, 21]
  (.seq
    (.region [⟨some 102, .none, true, 4, .move (.tmp 3)⟩,
      ⟨some 103, .none, true, 4, .unOp .not 4 (.tmp 102)⟩,
      ⟨some 104, .none, true, 4, .move (.tmp 103)⟩,
      ⟨some 105, .some 104 true, true, 4, .move (.tmp 6)⟩,
      ⟨some 106, .some 104 true, true, 4, .unOp .not 4 (.tmp 105)⟩,
      ⟨some 107, .none, true, 4, .pick (.tmp 104) (.tmp 106) (.const (.bool false))⟩,
      ⟨some 108, .none, true, 4, .move (.tmp 107)⟩,
      ⟨some 109, .some 108 true, true, 54, .build 54 #[]⟩,
      ⟨some 110, .some 108 true, true, 31, .call { callee := .value (.func 35), args := #[.tmp 109], argTypes := #[54] }⟩,
      ⟨some 111, .some 108 true, true, 3, .call { callee := .builtin .len, args := #[.tmp 110], argTypes := #[31] }⟩,
      ⟨some 112, .some 108 true, true, 4, .binOp .eql 3 (.tmp 111) (.const (.int .i64 0)) 3⟩,
      ⟨some 113, .none, true, 4, .pick (.tmp 108) (.tmp 112) (.const (.bool false))⟩,
      ⟨some 114, .none, true, 4, .move (.tmp 113)⟩,
      ⟨some 115, .some 114 true, true, 4, .move (.tmp 11)⟩,
      ⟨some 116, .none, true, 4, .pick (.tmp 114) (.tmp 115) (.const (.bool false))⟩,
      ⟨some 117, .none, true, 4, .move (.tmp 116)⟩,
      ⟨some 118, .some 117 true, true, 4, .move (.tmp 12)⟩,
      ⟨some 119, .none, true, 4, .pick (.tmp 117) (.tmp 118) (.const (.bool false))⟩,
      ⟨some 120, .none, true, 4, .move (.tmp 119)⟩,
      ⟨some 121, .some 120 true, true, 0, .fieldAddr 54 (.tmp 10) 1⟩,
      ⟨some 122, .some 120 true, true, 34, .load 34 (.tmp 121)⟩,
      ⟨some 123, .some 120 true, true, 4, .binOp .eql 34 (.tmp 122) (.const (.int .u64 7)) 34⟩,
      ⟨some 124, .none, true, 4, .pick (.tmp 120) (.tmp 123) (.const (.bool false))⟩,
      ⟨some 125, .none, true, 4, .move (.tmp 124)⟩,
      ⟨some 126, .some 125 true, true, 4, .move (.tmp 14)⟩,
      ⟨some 127, .some 125 true, true, 4, .unOp .not 4 (.tmp 126)⟩,
      ⟨some 128, .none, true, 4, .pick (.tmp 125) (.tmp 127) (.const (.bool false))⟩,
      ⟨some 129, .none, true, 4, .move (.tmp 128)⟩,
      ⟨some 130, .some 129 true, true, 4, .move (.tmp 15)⟩,
      ⟨some 131, .none, true, 4, .pick (.tmp 129) (.tmp 130) (.const (.bool false))⟩,
      ⟨some 132, .none, true, 4, .move (.tmp 131)⟩,
      ⟨some 133, .some 132 true, true, 54, .load 54 (.tmp 13)⟩,
      ⟨some 134, .some 132 true, true, 54, .load 54 (.tmp 10)⟩,
      ⟨some 135, .some 132 true, true, 4, .binOp .eql 54 (.tmp 133) (.tmp 134) 54⟩,
      ⟨some 136, .none, true, 4, .pick (.tmp 132) (.tmp 135) (.const (.bool false))⟩,
      ⟨some 137, .none, true, 4, .move (.tmp 136)⟩,
      ⟨some 138, .some 137 true, true, 4, .move (.tmp 17)⟩,
      ⟨some 139, .some 137 true, true, 4, .unOp .not 4 (.tmp 138)⟩,
      ⟨some 140, .none, true, 4, .pick (.tmp 137) (.tmp 139) (.const (.bool false))⟩,
      ⟨some 141, .none, true, 4, .move (.tmp 140)⟩,
      ⟨some 142, .some 141 true, true, 4, .move (.tmp 18)⟩,
      ⟨some 143, .some 141 true, true, 4, .unOp .not 4 (.tmp 142)⟩,
      ⟨some 144, .none, true, 4, .pick (.tmp 141) (.tmp 143) (.const (.bool false))⟩,
      ⟨some 145, .none, true, 4, .move (.tmp 144)⟩,
      ⟨some 146, .some 145 true, true, 4, .move (.tmp 20)⟩,
      ⟨some 147, .some 145 true, true, 4, .unOp .not 4 (.tmp 146)⟩,
      ⟨some 148, .none, true, 4, .pick (.tmp 145) (.tmp 147) (.const (.bool false))⟩,
      ⟨some 149, .none, true, 4, .move (.tmp 148)⟩,
      ⟨some 150, .some 149 true, true, 4, .move (.tmp 21)⟩,
      ⟨some 151, .some 149 true, true, 4, .unOp .not 4 (.tmp 150)⟩,
      ⟨some 152, .none, true, 4, .pick (.tmp 149) (.tmp 151) (.const (.bool false))⟩,
      ⟨some 0, .none, true, 4, .assign (.tmp 152)⟩])
  .ret)))))))))))))))))))))))))))))))
theorem t_reevelaw6_SuperKnown : FnT Try.prog f_reevelaw6_SuperKnown rc_reevelaw6_SuperKnown [.tmp 0] 0 := ⟨⟨[], Try.f11, _, Try.func11, rfl, by kernel_rfl, by kernel_rfl, by kernel_rfl, rfl, by decide⟩, by kernel_rfl⟩
/-- reeve/gauss.Of -/
abbrev f_gauss_Of : FuncId := 15
def rc_gauss_Of : RCode :=
  (.seq
    (.region [⟨some 4, .none, true, 23, .assign (.const (.complex .f64 0 0))⟩,
      ⟨some 5, .none, true, 4, .assign (.const (.bool false))⟩])
  (.keep [0, 1]
  (.seq
    (.seq
      (.region [⟨some 6, .none, true, 2, .move (.tmp 0)⟩,
        ⟨some 7, .none, true, 4, .call { callee := .value (.func 46), args := #[.tmp 6], argTypes := #[2] }⟩,
        ⟨some 8, .none, true, 4, .unOp .not 4 (.tmp 7)⟩,
        ⟨some 9, .none, true, 4, .move (.tmp 8)⟩,
        ⟨some 10, .some 9 false, true, 2, .move (.tmp 1)⟩,
        ⟨some 11, .some 9 false, true, 4, .call { callee := .value (.func 46), args := #[.tmp 10], argTypes := #[2] }⟩,
        ⟨some 12, .some 9 false, true, 4, .unOp .not 4 (.tmp 11)⟩,
        ⟨some 13, .none, true, 4, .pick (.tmp 9) (.const (.bool true)) (.tmp 12)⟩])
    (.keep [0, 1, 13]
    (.cond (.tmp 13)
      (.seq
        (.region [⟨some 4, .none, true, 23, .assign (.const (.complex .f64 0 0))⟩,
          ⟨some 5, .none, true, 4, .assign (.const (.bool false))⟩])
      .ret)
      .skip)))
  (.seq
    (.region [⟨some 14, .none, true, 2, .move (.tmp 0)⟩,
      ⟨some 15, .none, true, 48, .convert 2 48 (.tmp 14)⟩,
      ⟨some 16, .none, true, 2, .move (.tmp 1)⟩,
      ⟨some 17, .none, true, 48, .convert 2 48 (.tmp 16)⟩,
      ⟨some 18, .none, true, 23, .call { callee := .builtin .complex, args := #[.tmp 15, .tmp 17], argTypes := #[48, 48] }⟩,
      ⟨some 4, .none, true, 23, .assign (.tmp 18)⟩,
      ⟨some 5, .none, true, 4, .assign (.const (.bool true))⟩])
  .ret))))
theorem t_gauss_Of : FnT Try.prog f_gauss_Of rc_gauss_Of [.tmp 4, .tmp 5] 2 := ⟨⟨[], Try.f15, _, Try.func15, rfl, by kernel_rfl, by kernel_rfl, by kernel_rfl, rfl, by decide⟩, by kernel_rfl⟩
/-- reeve/gauss.Turn -/
abbrev f_gauss_Turn : FuncId := 16
def rc_gauss_Turnl0 : RCode :=
  (.seq
    (.region [⟨some 21, .none, true, 4, .binOp .lss 3 (.tmp 20) (.tmp 19) 3⟩])
  (.keep [5, 6, 19, 20, 21]
  (.seq
    (.cond (.tmp 21)
      .skip
      (.exit 0))
  (.keep [5, 6, 19, 20]
  (.seq
    (.block 1
      (.region [⟨some 22, .none, true, 2, .move (.tmp 6)⟩,
        ⟨some 23, .none, true, 2, .unOp .neg 2 (.tmp 22)⟩,
        ⟨some 24, .none, true, 2, .move (.tmp 5)⟩,
        ⟨some 5, .none, true, 2, .assign (.tmp 23)⟩,
        ⟨some 6, .none, true, 2, .assign (.tmp 24)⟩]))
  (.keep [5, 6, 19, 20]
  (.region [⟨some 25, .none, true, 3, .binOp .add 3 (.tmp 20) (.const (.int .i64 1)) 3⟩,
    ⟨some 20, .none, true, 3, .move (.tmp 25)⟩])))))))
def rc_gauss_Turn : RCode :=
  (.seq
    (.region [⟨some 4, .none, true, 23, .assign (.const (.complex .f64 0 0))⟩])
  (.keep [0, 1]
  (.seq
    (.region [⟨some 9, .none, true, 23, .move (.tmp 0)⟩,
      ⟨some 10, .none, true, 37, .call { callee := .value (.func 21), args := #[.tmp 9], argTypes := #[23] }⟩,
      ⟨some 8, .none, true, 37, .move (.tmp 10)⟩,
      ⟨some 11, .none, true, 2, .extract (.tmp 8) 0⟩,
      ⟨some 12, .none, true, 2, .extract (.tmp 8) 1⟩,
      ⟨some 13, .none, true, 4, .extract (.tmp 8) 2⟩,
      ⟨some 5, .none, true, 2, .assign (.tmp 11)⟩,
      ⟨some 6, .none, true, 2, .assign (.tmp 12)⟩,
      ⟨some 7, .none, true, 4, .assign (.tmp 13)⟩])
  (.keep [1, 5, 6, 7]
  (.seq
    (.seq
      (.region [⟨some 14, .none, true, 4, .move (.tmp 7)⟩,
        ⟨some 15, .none, true, 4, .unOp .not 4 (.tmp 14)⟩])
    (.keep [1, 5, 6, 15]
    (.cond (.tmp 15)
      (.seq
        (.region [⟨some 4, .none, true, 23, .assign (.const (.complex .f64 0 0))⟩])
      .ret)
      .skip)))
  (.seq
    (.seq
      (.region [⟨some 16, .none, true, 3, .move (.tmp 1)⟩,
        ⟨some 17, .none, true, 3, .binOp .rem 3 (.tmp 16) (.const (.int .i64 4)) 3⟩,
        ⟨some 18, .none, true, 3, .binOp .add 3 (.tmp 17) (.const (.int .i64 4)) 3⟩,
        ⟨some 19, .none, true, 3, .binOp .rem 3 (.tmp 18) (.const (.int .i64 4)) 3⟩,
        ⟨some 20, .none, true, 3, .move (.const (.int .i64 0))⟩])
    (.keep [5, 6, 19, 20]
    (.block 0
      (.loop [5, 6, 19, 20] rc_gauss_Turnl0))))
  (.seq
    (.region [⟨some 27, .none, true, 2, .move (.tmp 5)⟩,
      ⟨some 28, .none, true, 2, .move (.tmp 6)⟩,
      ⟨some 29, .none, true, 24, .call { callee := .value (.func 15), args := #[.tmp 27, .tmp 28], argTypes := #[2, 2] }⟩,
      ⟨some 26, .none, true, 24, .move (.tmp 29)⟩,
      ⟨some 30, .none, true, 23, .extract (.tmp 26) 0⟩,
      ⟨some 31, .none, true, 4, .extract (.tmp 26) 1⟩,
      ⟨some 0, .none, true, 23, .assign (.tmp 30)⟩])
  (.keep [0]
  (.seq
    (.region [⟨some 32, .none, true, 23, .move (.tmp 0)⟩,
      ⟨some 4, .none, true, 23, .assign (.tmp 32)⟩])
  .ret)))))))))
theorem t_gauss_Turn : FnT Try.prog f_gauss_Turn rc_gauss_Turn [.tmp 4] 2 := ⟨⟨[], Try.f16, _, Try.func16, rfl, by kernel_rfl, by kernel_rfl, by kernel_rfl, rfl, by decide⟩, by kernel_rfl⟩
/-- reeve/gauss.Spin -/
abbrev f_gauss_Spin : FuncId := 20
def rc_gauss_Spinl0 : RCode :=
  (.seq
    (.region [⟨some 12, .none, true, 0, .binOp .lss 3 (.tmp 11) (.tmp 10) 3⟩])
  (.keep [3, 9, 10, 11, 12]
  (.seq
    (.cond (.tmp 12)
      .skip
      (.exit 0))
  (.keep [3, 9, 10, 11]
  (.seq
    (.block 1
      (.seq
        (.region [⟨some 13, .none, true, 0, .indexAddr 31 (.tmp 9) (.tmp 11)⟩,
          ⟨some 14, .none, true, 34, .load 34 (.tmp 13)⟩,
          ⟨some 5, .none, true, 34, .assign (.tmp 14)⟩])
      (.keep [3, 5, 9, 10, 11]
      (.seq
        (.region [⟨some 16, .none, true, 23, .move (.tmp 3)⟩,
          ⟨some 17, .none, true, 23, .call { callee := .value (.func 16), args := #[.tmp 16, .const (.int .i64 1)], argTypes := #[23, 3] }⟩,
          ⟨some 18, .none, true, 37, .call { callee := .value (.func 21), args := #[.tmp 17], argTypes := #[23] }⟩,
          ⟨some 15, .none, true, 37, .move (.tmp 18)⟩,
          ⟨some 19, .none, true, 2, .extract (.tmp 15) 0⟩,
          ⟨some 20, .none, true, 2, .extract (.tmp 15) 1⟩,
          ⟨some 21, .none, true, 4, .extract (.tmp 15) 2⟩,
          ⟨some 6, .none, true, 2, .assign (.tmp 19)⟩,
          ⟨some 7, .none, true, 2, .assign (.tmp 20)⟩,
          ⟨some 8, .none, true, 4, .assign (.tmp 21)⟩])
      (.keep [5, 6, 7, 9, 10, 11]
      (.seq
        (.region [⟨some 22, .none, true, 2, .move (.tmp 6)⟩,
          ⟨some 23, .none, true, 34, .move (.tmp 5)⟩,
          ⟨some 24, .none, true, 32, .convert 34 32 (.tmp 23)⟩,
          ⟨some 25, .none, true, 2, .convert 32 2 (.tmp 24)⟩,
          ⟨some 26, .none, true, 34, .move (.tmp 5)⟩,
          ⟨some 27, .none, true, 34, .binOp .shr 34 (.tmp 26) (.const (.int .u64 32)) 33⟩,
          ⟨some 28, .none, true, 32, .convert 34 32 (.tmp 27)⟩,
          ⟨some 29, .none, true, 2, .convert 32 2 (.tmp 28)⟩,
          ⟨some 30, .none, true, 2, .binOp .sub 2 (.tmp 25) (.tmp 29) 2⟩,
          ⟨some 31, .none, true, 2, .binOp .add 2 (.tmp 22) (.tmp 30) 2⟩,
          ⟨some 6, .none, true, 2, .assign (.tmp 31)⟩])
      (.keep [5, 6, 7, 9, 10, 11]
      (.seq
        (.region [⟨some 32, .none, true, 2, .move (.tmp 7)⟩,
          ⟨some 33, .none, true, 34, .move (.tmp 5)⟩,
          ⟨some 34, .none, true, 34, .binOp .shr 34 (.tmp 33) (.const (.int .u64 16)) 33⟩,
          ⟨some 35, .none, true, 32, .convert 34 32 (.tmp 34)⟩,
          ⟨some 36, .none, true, 2, .convert 32 2 (.tmp 35)⟩,
          ⟨some 37, .none, true, 34, .move (.tmp 5)⟩,
          ⟨some 38, .none, true, 34, .binOp .shr 34 (.tmp 37) (.const (.int .u64 48)) 33⟩,
          ⟨some 39, .none, true, 32, .convert 34 32 (.tmp 38)⟩,
          ⟨some 40, .none, true, 2, .convert 32 2 (.tmp 39)⟩,
          ⟨some 41, .none, true, 2, .binOp .sub 2 (.tmp 36) (.tmp 40) 2⟩,
          ⟨some 42, .none, true, 2, .binOp .add 2 (.tmp 32) (.tmp 41) 2⟩,
          ⟨some 7, .none, true, 2, .assign (.tmp 42)⟩])
      (.keep [6, 7, 9, 10, 11]
      (.region [⟨some 44, .none, true, 2, .move (.tmp 6)⟩,
        ⟨some 45, .none, true, 2, .call { callee := .value (.func 48), args := #[.tmp 44], argTypes := #[2] }⟩,
        ⟨some 46, .none, true, 2, .move (.tmp 7)⟩,
        ⟨some 47, .none, true, 2, .call { callee := .value (.func 48), args := #[.tmp 46], argTypes := #[2] }⟩,
        ⟨some 48, .none, true, 24, .call { callee := .value (.func 15), args := #[.tmp 45, .tmp 47], argTypes := #[2, 2] }⟩,
        ⟨some 43, .none, true, 24, .move (.tmp 48)⟩,
        ⟨some 49, .none, true, 23, .extract (.tmp 43) 0⟩,
        ⟨some 50, .none, true, 4, .extract (.tmp 43) 1⟩,
        ⟨some 3, .none, true, 23, .assign (.tmp 49)⟩]))))))))))
  (.keep [3, 9, 10, 11]
  (.region [⟨some 51, .none, true, 3, .binOp .add 3 (.tmp 11) (.const (.int .i64 1)) 3⟩,
    ⟨some 11, .none, true, 3, .move (.tmp 51)⟩])))))))
def rc_gauss_Spin : RCode :=
  (.seq
    (.region [⟨some 2, .none, true, 23, .assign (.const (.complex .f64 0 0))⟩])
  (.keep [0]
  (.seq
    (.region [⟨some 3, .none, true, 23, .assign (.const (.complex .f64 0 0))⟩])
  (.keep [0, 3]
  (.seq
    (.seq
      (.region [⟨some 9, .none, true, 31, .move (.tmp 0)⟩,
        ⟨some 10, .none, true, 3, .call { callee := .builtin .len, args := #[.tmp 9], argTypes := #[31] }⟩,
        ⟨some 11, .none, true, 3, .move (.const (.int .i64 0))⟩])
    (.keep [3, 9, 10, 11]
    (.block 0
      (.loop [3, 9, 10, 11] rc_gauss_Spinl0))))
  (.seq
    (.region [⟨some 52, .none, true, 23, .move (.tmp 3)⟩,
      ⟨some 2, .none, true, 23, .assign (.tmp 52)⟩])
  .ret))))))
theorem t_gauss_Spin : FnT Try.prog f_gauss_Spin rc_gauss_Spin [.tmp 2] 1 := ⟨⟨[], Try.f20, _, Try.func20, rfl, by kernel_rfl, by kernel_rfl, by kernel_rfl, rfl, by decide⟩, by kernel_rfl⟩
/-- reeve/gauss.Parts -/
abbrev f_gauss_Parts : FuncId := 21
def rc_gauss_Parts : RCode :=
  (.seq
    (.region [⟨some 2, .none, true, 2, .assign (.const (.int .i64 0))⟩,
      ⟨some 3, .none, true, 2, .assign (.const (.int .i64 0))⟩,
      ⟨some 4, .none, true, 4, .assign (.const (.bool false))⟩])
  (.keep [0]
  (.seq
    (.region [⟨some 8, .none, true, 23, .move (.tmp 0)⟩,
      ⟨some 9, .none, true, 48, .call { callee := .builtin .real, args := #[.tmp 8], argTypes := #[23] }⟩,
      ⟨some 10, .none, true, 77, .call { callee := .value (.func 49), args := #[.tmp 9], argTypes := #[48] }⟩,
      ⟨some 7, .none, true, 77, .move (.tmp 10)⟩,
      ⟨some 11, .none, true, 2, .extract (.tmp 7) 0⟩,
      ⟨some 12, .none, true, 4, .extract (.tmp 7) 1⟩,
      ⟨some 2, .none, true, 2, .assign (.tmp 11)⟩,
      ⟨some 5, .none, true, 4, .assign (.tmp 12)⟩])
  (.keep [0, 2, 5]
  (.seq
    (.region [⟨some 14, .none, true, 23, .move (.tmp 0)⟩,
      ⟨some 15, .none, true, 48, .call { callee := .builtin .imag, args := #[.tmp 14], argTypes := #[23] }⟩,
      ⟨some 16, .none, true, 77, .call { callee := .value (.func 49), args := #[.tmp 15], argTypes := #[48] }⟩,
      ⟨some 13, .none, true, 77, .move (.tmp 16)⟩,
      ⟨some 17, .none, true, 2, .extract (.tmp 13) 0⟩,
      ⟨some 18, .none, true, 4, .extract (.tmp 13) 1⟩,
      ⟨some 3, .none, true, 2, .assign (.tmp 17)⟩,
      ⟨some 6, .none, true, 4, .assign (.tmp 18)⟩])
  (.keep [2, 3, 5, 6]
  (.seq
    (.seq
      (.region [⟨some 19, .none, true, 4, .move (.tmp 5)⟩,
        ⟨some 20, .none, true, 4, .unOp .not 4 (.tmp 19)⟩,
        ⟨some 21, .none, true, 4, .move (.tmp 20)⟩,
        ⟨some 22, .some 21 false, true, 4, .move (.tmp 6)⟩,
        ⟨some 23, .some 21 false, true, 4, .unOp .not 4 (.tmp 22)⟩,
        ⟨some 24, .none, true, 4, .pick (.tmp 21) (.const (.bool true)) (.tmp 23)⟩])
    (.keep [2, 3, 24]
    (.cond (.tmp 24)
      (.seq
        (.region [⟨some 2, .none, true, 2, .assign (.const (.int .i64 0))⟩,
          ⟨some 3, .none, true, 2, .assign (.const (.int .i64 0))⟩,
          ⟨some 4, .none, true, 4, .assign (.const (.bool false))⟩])
      .ret)
      .skip)))
  (.seq
    (.region [⟨some 25, .none, true, 2, .move (.tmp 2)⟩,
      ⟨some 26, .none, true, 2, .move (.tmp 3)⟩,
      ⟨some 2, .none, true, 2, .assign (.tmp 25)⟩,
      ⟨some 3, .none, true, 2, .assign (.tmp 26)⟩,
      ⟨some 4, .none, true, 4, .assign (.const (.bool true))⟩])
  .ret))))))))
theorem t_gauss_Parts : FnT Try.prog f_gauss_Parts rc_gauss_Parts [.tmp 2, .tmp 3, .tmp 4] 1 := ⟨⟨[], Try.f21, _, Try.func21, rfl, by kernel_rfl, by kernel_rfl, by kernel_rfl, rfl, by decide⟩, by kernel_rfl⟩
/-- reeve/gauss.Word -/
abbrev f_gauss_Word : FuncId := 23
def rc_gauss_Word : RCode :=
  (.seq
    (.region [⟨some 2, .none, true, 34, .assign (.const (.int .u64 0))⟩,
      ⟨some 3, .none, true, 4, .assign (.const (.bool false))⟩])
  (.keep [0]
  (.seq
    (.region [⟨some 8, .none, true, 23, .move (.tmp 0)⟩,
      ⟨some 9, .none, true, 37, .call { callee := .value (.func 21), args := #[.tmp 8], argTypes := #[23] }⟩,
      ⟨some 7, .none, true, 37, .move (.tmp 9)⟩,
      ⟨some 10, .none, true, 2, .extract (.tmp 7) 0⟩,
      ⟨some 11, .none, true, 2, .extract (.tmp 7) 1⟩,
      ⟨some 12, .none, true, 4, .extract (.tmp 7) 2⟩,
      ⟨some 4, .none, true, 2, .assign (.tmp 10)⟩,
      ⟨some 5, .none, true, 2, .assign (.tmp 11)⟩,
      ⟨some 6, .none, true, 4, .assign (.tmp 12)⟩])
  (.keep [4, 5, 6]
  (.seq
    (.seq
      (.region [⟨some 13, .none, true, 4, .move (.tmp 6)⟩,
        ⟨some 14, .none, true, 4, .unOp .not 4 (.tmp 13)⟩,
        ⟨some 15, .none, true, 4, .move (.tmp 14)⟩,
        ⟨some 16, .some 15 false, true, 2, .move (.tmp 4)⟩,
        ⟨some 17, .some 15 false, true, 4, .binOp .lss 2 (.tmp 16) (.const (.int .i64 0)) 2⟩,
        ⟨some 18, .none, true, 4, .pick (.tmp 15) (.const (.bool true)) (.tmp 17)⟩,
        ⟨some 19, .none, true, 4, .move (.tmp 18)⟩,
        ⟨some 20, .some 19 false, true, 2, .move (.tmp 4)⟩,
        ⟨some 21, .some 19 false, true, 4, .binOp .gtr 2 (.tmp 20) (.const (.int .i64 4294967295)) 2⟩,
        ⟨some 22, .none, true, 4, .pick (.tmp 19) (.const (.bool true)) (.tmp 21)⟩,
        ⟨some 23, .none, true, 4, .move (.tmp 22)⟩,
        ⟨some 24, .some 23 false, true, 2, .move (.tmp 5)⟩,
        ⟨some 25, .some 23 false, true, 4, .binOp .lss 2 (.tmp 24) (.const (.int .i64 0)) 2⟩,
        ⟨some 26, .none, true, 4, .pick (.tmp 23) (.const (.bool true)) (.tmp 25)⟩,
        ⟨some 27, .none, true, 4, .move (.tmp 26)⟩,
        ⟨some 28, .some 27 false, true, 2, .move (.tmp 5)⟩,
        ⟨some 29, .some 27 false, true, 4, .binOp .gtr 2 (.tmp 28) (.const (.int .i64 4294967295)) 2⟩,
        ⟨some 30, .none, true, 4, .pick (.tmp 27) (.const (.bool true)) (.tmp 29)⟩])
    (.keep [4, 5, 30]
    (.cond (.tmp 30)
      (.seq
        (.region [⟨some 2, .none, true, 34, .assign (.const (.int .u64 0))⟩,
          ⟨some 3, .none, true, 4, .assign (.const (.bool false))⟩])
      .ret)
      .skip)))
  (.seq
    (.region [⟨some 31, .none, true, 2, .move (.tmp 5)⟩,
      ⟨some 32, .none, true, 34, .convert 2 34 (.tmp 31)⟩,
      ⟨some 33, .none, true, 34, .binOp .shl 34 (.tmp 32) (.const (.int .u64 32)) 33⟩,
      ⟨some 34, .none, true, 2, .move (.tmp 4)⟩,
      ⟨some 35, .none, true, 34, .convert 2 34 (.tmp 34)⟩,
      ⟨some 36, .none, true, 34, .binOp .or 34 (.tmp 33) (.tmp 35) 34⟩,
      ⟨some 2, .none, true, 34, .assign (.tmp 36)⟩,
      ⟨some 3, .none, true, 4, .assign (.const (.bool true))⟩])
  .ret))))))
theorem t_gauss_Word : FnT Try.prog f_gauss_Word rc_gauss_Word [.tmp 2, .tmp 3] 1 := ⟨⟨[], Try.f23, _, Try.func23, rfl, by kernel_rfl, by kernel_rfl, by kernel_rfl, rfl, by decide⟩, by kernel_rfl⟩
/-- reeve/reevelaw6.awake -/
abbrev f_reevelaw6_awake : FuncId := 34
def rc_reevelaw6_awake : RCode :=
  (.seq
    (.region [⟨some 0, .none, true, 4, .assign (.const (.bool false))⟩])
  (.keep []
  (.seq
    (.region [⟨some 5, .none, true, 52, .call { callee := .value (.func 38), args := #[], argTypes := #[] }⟩,
      ⟨some 6, .none, true, 54, .build 54 #[(0, .tmp 5), (1, .const (.int .u64 7))]⟩,
      ⟨some 1, .none, true, 0, .alloc 54⟩,
      ⟨none, .none, true, 0, .store 54 (.tmp 1) (.tmp 6)⟩])
  (.keep [1]
  (.seq
    (.region [⟨some 7, .none, true, 54, .load 54 (.tmp 1)⟩,
      ⟨some 8, .none, true, 31, .call { callee := .value (.func 35), args := #[.tmp 7], argTypes := #[54] }⟩,
      ⟨some 2, .none, true, 31, .assign (.tmp 8)⟩])
  (.keep [1, 2]
  (.seq
    (.region [⟨some 10, .none, true, 31, .move (.tmp 2)⟩,
      ⟨some 11, .none, true, 56, .call { callee := .value (.func 36), args := #[.tmp 10], argTypes := #[31] }⟩,
      ⟨some 9, .none, true, 56, .move (.tmp 11)⟩,
      ⟨some 12, .none, true, 54, .extract (.tmp 9) 0⟩,
      ⟨some 13, .none, true, 4, .extract (.tmp 9) 1⟩,
      ⟨some 3, .none, true, 0, .alloc 54⟩,
      ⟨none, .none, true, 0, .store 54 (.tmp 3) (.tmp 12)⟩,
      ⟨some 4, .none, true, 4, .assign (.tmp 13)⟩])
  (.keep [1, 2, 3, 4]
  (.seq
    (.region [⟨some 14, .none, true, 31, .move (.tmp 2)⟩,
      ⟨some 15, .none, true, 3, .call { callee := .builtin .len, args := #[.tmp 14], argTypes := #[31] }⟩,
      ⟨some 16, .none, true, 4, .binOp .eql 3 (.tmp 15) (.const (.int .i64 8)) 3⟩,
      ⟨some 17, .none, true, 4, .move (.tmp 16)⟩,
      ⟨some 18, .some 17 true, true, 31, .move (.tmp 2)⟩,
      ⟨some 19, .some 17 true, true, 0, .indexAddr 31 (.tmp 18) (.const (.int .i64 0))⟩,
      ⟨some 20, .some 17 true, true, 34, .load 34 (.tmp 19)⟩,
      ⟨some 21, .some 17 true, true, 4, .binOp .eql 34 (.tmp 20) (.const (.int .u64 8243106252149764145)) 34⟩,
      ⟨some 22, .none, true, 4, .pick (.tmp 17) (.tmp 21) (.const (.bool false))⟩,
      ⟨some 23, .none, true, 4, .move (.tmp 22)⟩,
      ⟨some 24, .some 23 true, true, 31, .move (.tmp 2)⟩,
      ⟨some 25, .some 23 true, true, 0, .indexAddr 31 (.tmp 24) (.const (.int .i64 4))⟩,
      ⟨some 26, .some 23 true, true, 34, .load 34 (.tmp 25)⟩,
      ⟨some 27, .some 23 true, true, 4, .binOp .eql 34 (.tmp 26) (.const (.int .u64 7)) 34⟩,
      ⟨some 28, .none, true, 4, .pick (.tmp 23) (.tmp 27) (.const (.bool false))⟩,
      ⟨some 29, .none, true, 4, .move (.tmp 28)⟩,
      ⟨some 30, .some 29 true, true, 4, .move (.tmp 4)⟩,
      ⟨some 31, .none, true, 4, .pick (.tmp 29) (.tmp 30) (.const (.bool false))⟩,
      ⟨some 32, .none, true, 4, .move (.tmp 31)⟩,
      ⟨some 33, .some 32 true, true, 54, .load 54 (.tmp 3)⟩,
      ⟨some 34, .some 32 true, true, 54, .load 54 (.tmp 1)⟩,
      ⟨some 35, .some 32 true, true, 4, .binOp .eql 54 (.tmp 33) (.tmp 34) 54⟩,
      ⟨some 36, .none, true, 4, .pick (.tmp 32) (.tmp 35) (.const (.bool false))⟩,
      ⟨some 0, .none, true, 4, .assign (.tmp 36)⟩])
  .ret)))))))))
theorem t_reevelaw6_awake : FnT Try.prog f_reevelaw6_awake rc_reevelaw6_awake [.tmp 0] 0 := ⟨⟨[], Try.f34, _, Try.func34, rfl, by kernel_rfl, by kernel_rfl, by kernel_rfl, rfl, by decide⟩, by kernel_rfl⟩
/-- reeve/super.Put -/
abbrev f_super_Put : FuncId := 35
def rc_super_Put : RCode :=
  (.seq
    (.region [⟨some 1, .none, true, 0, .box 54 (.tmp 0)⟩,
      ⟨some 2, .none, true, 31, .assign (.const (.slice none 0 0))⟩])
  (.keep [1]
  (.seq
    (.seq
      (.region [⟨some 6, .none, true, 0, .fieldAddr 54 (.tmp 1) 0⟩,
        ⟨some 7, .none, true, 52, .load 52 (.tmp 6)⟩,
        ⟨some 8, .none, true, 4, .call { callee := .value (.func 45), args := #[.tmp 7], argTypes := #[52] }⟩,
        ⟨some 9, .none, true, 4, .unOp .not 4 (.tmp 8)⟩])
    (.keep [1, 9]
    (.cond (.tmp 9)
      (.seq
        (.region [⟨some 2, .none, true, 31, .assign (.const (.slice none 0 0))⟩])
      .ret)
      .skip)))
  (.seq
    (.region [⟨some 10, .none, true, 0, .fieldAddr 54 (.tmp 1) 0⟩,
      ⟨some 11, .none, true, 0, .fieldAddr 52 (.tmp 10) 0⟩,
      ⟨some 12, .none, true, 3, .load 3 (.tmp 11)⟩,
      ⟨some 13, .none, true, 34, .convert 3 34 (.tmp 12)⟩,
      ⟨some 14, .none, true, 0, .fieldAddr 54 (.tmp 1) 0⟩,
      ⟨some 15, .none, true, 0, .fieldAddr 52 (.tmp 14) 1⟩,
      ⟨some 16, .none, true, 3, .load 3 (.tmp 15)⟩,
      ⟨some 17, .none, true, 34, .convert 3 34 (.tmp 16)⟩,
      ⟨some 18, .none, true, 0, .fieldAddr 54 (.tmp 1) 0⟩,
      ⟨some 19, .none, true, 0, .fieldAddr 52 (.tmp 18) 2⟩,
      ⟨some 20, .none, true, 3, .load 3 (.tmp 19)⟩,
      ⟨some 21, .none, true, 34, .convert 3 34 (.tmp 20)⟩,
      ⟨some 22, .none, true, 0, .fieldAddr 54 (.tmp 1) 1⟩,
      ⟨some 23, .none, true, 34, .load 34 (.tmp 22)⟩,
      ⟨some 24, .none, true, 31, .buildSlice 31 7 #[(0, .const (.int .u64 8243106252149764145)), (1, .tmp 13), (2, .tmp 17), (3, .tmp 21), (4, .tmp 23), (5, .const (.int .u64 0)), (6, .const (.int .u64 0))]⟩,
      ⟨some 3, .none, true, 31, .assign (.tmp 24)⟩])
  (.keep [3]
  (.seq
    (.region [⟨some 26, .none, true, 31, .move (.tmp 3)⟩,
      ⟨some 27, .none, true, 23, .call { callee := .value (.func 20), args := #[.tmp 26], argTypes := #[31] }⟩,
      ⟨some 28, .none, true, 42, .call { callee := .value (.func 23), args := #[.tmp 27], argTypes := #[23] }⟩,
      ⟨some 25, .none, true, 42, .move (.tmp 28)⟩,
      ⟨some 29, .none, true, 34, .extract (.tmp 25) 0⟩,
      ⟨some 30, .none, true, 4, .extract (.tmp 25) 1⟩,
      ⟨some 4, .none, true, 34, .assign (.tmp 29)⟩,
      ⟨some 5, .none, true, 4, .assign (.tmp 30)⟩])
  (.keep [3, 4]
  (.seq
    (.region [⟨some 31, .none, true, 31, .move (.tmp 3)⟩,
      ⟨some 32, .none, true, 34, .move (.tmp 4)⟩,
      ⟨some 33, .none, true, 31, .buildSlice 31 1 #[(0, .tmp 32)]⟩,
      ⟨some 34, .none, true, 31, .call { callee := .builtin .append, args := #[.tmp 31, .tmp 33], argTypes := #[31, 31] }⟩,
      ⟨some 2, .none, true, 31, .assign (.tmp 34)⟩])
  .ret))))))))
theorem t_super_Put : FnT Try.prog f_super_Put rc_super_Put [.tmp 2] 1 := ⟨⟨[], Try.f35, _, Try.func35, rfl, by kernel_rfl, by kernel_rfl, by kernel_rfl, rfl, by decide⟩, by kernel_rfl⟩
/-- reeve/super.Get -/
abbrev f_super_Get : FuncId := 36
def rc_super_Get : RCode :=
  (.seq
    (.region [⟨some 2, .none, true, 0, .alloc 54⟩,
      ⟨some 3, .none, true, 4, .assign (.const (.bool false))⟩])
  (.keep [0, 2]
  (.seq
    (.seq
      (.region [⟨some 5, .none, true, 31, .move (.tmp 0)⟩,
        ⟨some 6, .none, true, 3, .call { callee := .builtin .len, args := #[.tmp 5], argTypes := #[31] }⟩,
        ⟨some 7, .none, true, 4, .binOp .neq 3 (.tmp 6) (.const (.int .i64 8)) 3⟩,
        ⟨some 8, .none, true, 4, .move (.tmp 7)⟩,
        ⟨some 9, .some 8 false, false, 31, .move (.tmp 0)⟩,
        ⟨some 10, .some 8 false, false, 0, .indexAddr 31 (.tmp 9) (.const (.int .i64 1))⟩,
        ⟨some 11, .some 8 false, false, 34, .load 34 (.tmp 10)⟩,
        ⟨some 12, .some 8 false, false, 31, .move (.tmp 0)⟩,
        ⟨some 13, .some 8 false, false, 0, .indexAddr 31 (.tmp 12) (.const (.int .i64 2))⟩,
        ⟨some 14, .some 8 false, false, 34, .load 34 (.tmp 13)⟩,
        ⟨some 15, .some 8 false, false, 31, .move (.tmp 0)⟩,
        ⟨some 16, .some 8 false, false, 0, .indexAddr 31 (.tmp 15) (.const (.int .i64 3))⟩,
        ⟨some 17, .some 8 false, false, 34, .load 34 (.tmp 16)⟩,
        ⟨some 18, .some 8 false, true, 34, .call { callee := .builtin .max, args := #[.tmp 11, .tmp 14, .tmp 17], argTypes := #[34, 34, 34] }⟩,
        ⟨some 19, .some 8 false, true, 4, .binOp .gtr 34 (.tmp 18) (.const (.int .u64 4096)) 34⟩,
        ⟨some 20, .none, true, 4, .pick (.tmp 8) (.const (.bool true)) (.tmp 19)⟩])
    (.keep [0, 2, 20]
    (.cond (.tmp 20)
      (.seq
        (.region [⟨some 21, .none, true, 54, .build 54 #[]⟩,
          ⟨none, .none, true, 0, .store 54 (.tmp 2) (.tmp 21)⟩,
          ⟨some 3, .none, true, 4, .assign (.const (.bool false))⟩])
      .ret)
      .skip)))
  (.seq
    (.regionD [⟨some 22, .none, 31, .move (.tmp 0), 0, []⟩,
      ⟨some 23, .none, 0, .indexAddr 31 (.tmp 22) (.const (.int .i64 1)), 1, []⟩,
      ⟨some 24, .none, 34, .load 34 (.tmp 23), 2, []⟩,
      ⟨some 25, .none, 3, .convert 34 3 (.tmp 24), 3, []⟩,
      ⟨some 26, .none, 31, .move (.tmp 0), 4, []⟩,
      ⟨some 27, .none, 0, .indexAddr 31 (.tmp 26) (.const (.int .i64 2)), 5, []⟩,
      ⟨some 28, .none, 34, .load 34 (.tmp 27), 6, []⟩,
      ⟨some 29, .none, 3, .convert 34 3 (.tmp 28), 7, []⟩,
      ⟨some 30, .none, 31, .move (.tmp 0), 8, []⟩,
      ⟨some 31, .none, 0, .indexAddr 31 (.tmp 30) (.const (.int .i64 3)), 9, []⟩,
      ⟨some 32, .none, 34, .load 34 (.tmp 31), 10, []⟩,
      ⟨some 33, .none, 3, .convert 34 3 (.tmp 32), 11, []⟩,
      ⟨some 34, .none, 52, .build 52 #[(0, .tmp 25), (1, .tmp 29), (2, .tmp 33)], 12, []⟩,
      ⟨some 35, .none, 31, .move (.tmp 0), 13, []⟩,
      ⟨some 36, .none, 0, .indexAddr 31 (.tmp 35) (.const (.int .i64 4)), 14, []⟩,
      ⟨some 37, .none, 34, .load 34 (.tmp 36), 15, []⟩,
      ⟨some 38, .none, 54, .build 54 #[(0, .tmp 34), (1, .tmp 37)], 16, []⟩,
      ⟨some 4, .none, 0, .alloc 54, 17, [2, 6, 10, 15]⟩,
      ⟨none, .none, 0, .store 54 (.tmp 4) (.tmp 38), 18, []⟩])
  (.keep [0, 2, 4]
  (.seq
    (.seq
      (.region [⟨some 39, .none, true, 54, .load 54 (.tmp 4)⟩,
        ⟨some 40, .none, true, 31, .call { callee := .value (.func 35), args := #[.tmp 39], argTypes := #[54] }⟩,
        ⟨some 41, .none, true, 31, .move (.tmp 0)⟩,
        ⟨some 42, .none, true, 4, .call { callee := .value (.func 53), args := #[.tmp 40, .tmp 41], argTypes := #[31, 31] }⟩,
        ⟨some 43, .none, true, 4, .unOp .not 4 (.tmp 42)⟩])
    (.keep [2, 4, 43]
    (.cond (.tmp 43)
      (.seq
        (.region [⟨some 44, .none, true, 54, .build 54 #[]⟩,
          ⟨none, .none, true, 0, .store 54 (.tmp 2) (.tmp 44)⟩,
          ⟨some 3, .none, true, 4, .assign (.const (.bool false))⟩])
      .ret)
      .skip)))
  (.seq
    (.region [⟨some 45, .none, true, 54, .load 54 (.tmp 4)⟩,
      ⟨none, .none, true, 0, .store 54 (.tmp 2) (.tmp 45)⟩,
      ⟨some 3, .none, true, 4, .assign (.const (.bool true))⟩])
  .ret)))))))
theorem t_super_Get : FnT Try.prog f_super_Get rc_super_Get [.cell 2 54, .tmp 3] 1 := ⟨⟨[3], Try.f36, _, Try.func36, rfl, by kernel_rfl, by kernel_rfl, by kernel_rfl, rfl, by decide⟩, by kernel_rfl⟩
/-- reeve/geo.Plain -/
abbrev f_geo_Plain : FuncId := 38
def rc_geo_Plain : RCode :=
  (.seq
    (.region [⟨some 0, .none, true, 0, .alloc 52⟩])
  (.keep [0]
  (.seq
    (.region [⟨some 1, .none, true, 52, .build 52 #[(0, .const (.int .i64 2)), (1, .const (.int .i64 32)), (2, .const (.int .i64 16))]⟩,
      ⟨none, .none, true, 0, .store 52 (.tmp 0) (.tmp 1)⟩])
  .ret)))
theorem t_geo_Plain : FnT Try.prog f_geo_Plain rc_geo_Plain [.cell 0 52] 0 := ⟨⟨[], Try.f38, _, Try.func38, rfl, by kernel_rfl, by kernel_rfl, by kernel_rfl, rfl, by decide⟩, by kernel_rfl⟩
/-- reeve/geo.Rows -/
abbrev f_geo_Rows : FuncId := 39
def rc_geo_Rows : RCode :=
  (.seq
    (.region [⟨some 1, .none, true, 0, .box 52 (.tmp 0)⟩,
      ⟨some 2, .none, true, 3, .assign (.const (.int .i64 0))⟩])
  (.keep [1]
  (.seq
    (.seq
      (.region [⟨some 3, .none, true, 52, .load 52 (.tmp 1)⟩,
        ⟨some 4, .none, true, 4, .call { callee := .value (.func 45), args := #[.tmp 3], argTypes := #[52] }⟩,
        ⟨some 5, .none, true, 4, .unOp .not 4 (.tmp 4)⟩])
    (.keep [1, 5]
    (.cond (.tmp 5)
      (.seq
        (.region [⟨some 2, .none, true, 3, .assign (.const (.int .i64 0))⟩])
      .ret)
      .skip)))
  (.seq
    (.region [⟨some 6, .none, true, 52, .load 52 (.tmp 1)⟩,
      ⟨some 7, .none, true, 3, .call { callee := .value (.func 54), args := #[.tmp 6], argTypes := #[52] }⟩,
      ⟨some 8, .none, true, 3, .binOp .quo 3 (.tmp 7) (.const (.int .i64 8)) 3⟩,
      ⟨some 9, .none, true, 3, .binOp .add 3 (.tmp 8) (.const (.int .i64 1)) 3⟩,
      ⟨some 2, .none, true, 3, .assign (.tmp 9)⟩])
  .ret))))
theorem t_geo_Rows : FnT Try.prog f_geo_Rows rc_geo_Rows [.tmp 2] 1 := ⟨⟨[], Try.f39, _, Try.func39, rfl, by kernel_rfl, by kernel_rfl, by kernel_rfl, rfl, by decide⟩, by kernel_rfl⟩
/-- reeve/super.Find -/
abbrev f_super_Find : FuncId := 40
def rc_super_Find : RCode :=
  (.seq
    (.region [⟨some 2, .none, true, 0, .alloc 54⟩,
      ⟨some 3, .none, true, 4, .assign (.const (.bool false))⟩,
      ⟨some 4, .none, true, 4, .assign (.const (.bool false))⟩])
  (.keep [0, 2]
  (.seq
    (.region [⟨some 7, .none, true, 31, .move (.tmp 0)⟩,
      ⟨some 8, .none, true, 3, .call { callee := .builtin .len, args := #[.tmp 7], argTypes := #[31] }⟩,
      ⟨some 5, .none, true, 3, .assign (.tmp 8)⟩])
  (.keep [0, 2, 5]
  (.seq
    (.seq
      (.region [⟨some 9, .none, true, 3, .move (.tmp 5)⟩,
        ⟨some 10, .none, true, 4, .binOp .lss 3 (.tmp 9) (.const (.int .i64 8)) 3⟩,
        ⟨some 11, .none, true, 4, .move (.tmp 10)⟩,
        ⟨some 12, .some 11 false, true, 3, .move (.tmp 5)⟩,
        ⟨some 13, .some 11 false, true, 3, .binOp .rem 3 (.tmp 12) (.const (.int .i64 8)) 3⟩,
        ⟨some 14, .some 11 false, true, 4, .binOp .neq 3 (.tmp 13) (.const (.int .i64 0)) 3⟩,
        ⟨some 15, .none, true, 4, .pick (.tmp 11) (.const (.bool true)) (.tmp 14)⟩])
    (.keep [0, 2, 5, 15]
    (.cond (.tmp 15)
      (.seq
        (.region [⟨some 16, .none, true, 54, .build 54 #[]⟩,
          ⟨none, .none, true, 0, .store 54 (.tmp 2) (.tmp 16)⟩,
          ⟨some 3, .none, true, 4, .assign (.const (.bool false))⟩,
          ⟨some 4, .none, true, 4, .assign (.const (.bool false))⟩])
      .ret)
      .skip)))
  (.seq
    (.region [⟨some 18, .none, true, 31, .move (.tmp 0)⟩,
      ⟨some 19, .none, true, 31, .slice 31 (.tmp 18) none (some (.const (.int .i64 8))) none⟩,
      ⟨some 20, .none, true, 56, .call { callee := .value (.func 36), args := #[.tmp 19], argTypes := #[31] }⟩,
      ⟨some 17, .none, true, 56, .move (.tmp 20)⟩,
      ⟨some 21, .none, true, 54, .extract (.tmp 17) 0⟩,
      ⟨some 22, .none, true, 4, .extract (.tmp 17) 1⟩,
      ⟨none, .none, true, 0, .store 54 (.tmp 2) (.tmp 21)⟩,
      ⟨some 3, .none, true, 4, .assign (.tmp 22)⟩])
  (.keep [0, 2, 3, 5]
  (.seq
    (.region [⟨some 23, .none, true, 4, .move (.tmp 3)⟩,
      ⟨some 24, .none, true, 4, .move (.tmp 23)⟩,
      ⟨some 25, .some 24 true, true, 0, .fieldAddr 54 (.tmp 2) 0⟩,
      ⟨some 26, .some 24 true, true, 52, .load 52 (.tmp 25)⟩,
      ⟨some 27, .some 24 true, true, 3, .call { callee := .value (.func 39), args := #[.tmp 26], argTypes := #[52] }⟩,
      ⟨some 28, .some 24 true, true, 3, .move (.tmp 5)⟩,
      ⟨some 29, .some 24 true, true, 3, .binOp .quo 3 (.tmp 28) (.const (.int .i64 8)) 3⟩,
      ⟨some 30, .some 24 true, true, 4, .binOp .eql 3 (.tmp 27) (.tmp 29) 3⟩,
      ⟨some 31, .none, true, 4, .pick (.tmp 24) (.tmp 30) (.const (.bool false))⟩,
      ⟨some 3, .none, true, 4, .assign (.tmp 31)⟩])
  (.keep [0, 2, 3, 5]
  (.seq
    (.region [⟨some 33, .none, true, 31, .move (.tmp 0)⟩,
      ⟨some 34, .none, true, 3, .move (.tmp 5)⟩,
      ⟨some 35, .none, true, 3, .binOp .sub 3 (.tmp 34) (.const (.int .i64 8)) 3⟩,
      ⟨some 36, .none, true, 31, .slice 31 (.tmp 33) (some (.tmp 35)) none none⟩,
      ⟨some 37, .none, true, 56, .call { callee := .value (.func 36), args := #[.tmp 36], argTypes := #[31] }⟩,
      ⟨some 32, .none, true, 56, .move (.tmp 37)⟩,
      ⟨some 38, .none, true, 54, .extract (.tmp 32) 0⟩,
      ⟨some 39, .none, true, 4, .extract (.tmp 32) 1⟩,
      ⟨some 6, .none, true, 0, .alloc 54⟩,
      ⟨none, .none, true, 0, .store 54 (.tmp 6) (.tmp 38)⟩,
      ⟨some 4, .none, true, 4, .assign (.tmp 39)⟩])
  (.keep [2, 3, 4, 5, 6]
  (.seq
    (.region [⟨some 40, .none, true, 4, .move (.tmp 4)⟩,
      ⟨some 41, .none, true, 4, .move (.tmp 40)⟩,
      ⟨some 42, .some 41 true, true, 0, .fieldAddr 54 (.tmp 6) 0⟩,
      ⟨some 43, .some 41 true, true, 52, .load 52 (.tmp 42)⟩,
      ⟨some 44, .some 41 true, true, 3, .call { callee := .value (.func 39), args := #[.tmp 43], argTypes := #[52] }⟩,
      ⟨some 45, .some 41 true, true, 3, .move (.tmp 5)⟩,
      ⟨some 46, .some 41 true, true, 3, .binOp .quo 3 (.tmp 45) (.const (.int .i64 8)) 3⟩,
      ⟨some 47, .some 41 true, true, 4, .binOp .eql 3 (.tmp 44) (.tmp 46) 3⟩,
      ⟨some 48, .none, true, 4, .pick (.tmp 41) (.tmp 47) (.const (.bool false))⟩,
      ⟨some 4, .none, true, 4, .assign (.tmp 48)⟩])
  (.keep [2, 3, 4, 6]
  (.seq
    (.block 0
      (.seq
        (.region [⟨some 50, .none, true, 4, .move (.tmp 3)⟩,
          ⟨some 49, .none, true, 4, .assign (.tmp 50)⟩])
      (.keep [2, 3, 4, 6, 49]
      (.cond (.tmp 49)
        (.seq
          (.region [⟨some 51, .none, true, 54, .load 54 (.tmp 2)⟩,
            ⟨some 52, .none, true, 4, .move (.tmp 3)⟩,
            ⟨some 53, .none, true, 4, .move (.tmp 4)⟩,
            ⟨none, .none, true, 0, .store 54 (.tmp 2) (.tmp 51)⟩,
            ⟨some 3, .none, true, 4, .assign (.tmp 52)⟩,
            ⟨some 4, .none, true, 4, .assign (.tmp 53)⟩])
        .ret)
        (.seq
          (.region [⟨some 55, .none, true, 4, .move (.tmp 4)⟩,
            ⟨some 54, .none, true, 4, .assign (.tmp 55)⟩])
        (.keep [2, 3, 4, 6, 54]
        (.cond (.tmp 54)
          (.seq
            (.region [⟨some 56, .none, true, 54, .load 54 (.tmp 6)⟩,
              ⟨some 57, .none, true, 4, .move (.tmp 3)⟩,
              ⟨some 58, .none, true, 4, .move (.tmp 4)⟩,
              ⟨none, .none, true, 0, .store 54 (.tmp 2) (.tmp 56)⟩,
              ⟨some 3, .none, true, 4, .assign (.tmp 57)⟩,
              ⟨some 4, .none, true, 4, .assign (.tmp 58)⟩])
          .ret)
          .skip)))))))
  (.keep [2]
  (.seq
    (.region [⟨some 59, .none, true, 54, .build 54 #[]⟩,
      ⟨none, .none, true, 0, .store 54 (.tmp 2) (.tmp 59)⟩,
      ⟨some 3, .none, true, 4, .assign (.const (.bool false))⟩,
      ⟨some 4, .none, true, 4, .assign (.const (.bool false))⟩])
  .ret))))))))))))))))
theorem t_super_Find : FnT Try.prog f_super_Find rc_super_Find [.cell 2 54, .tmp 3, .tmp 4] 1 := ⟨⟨[], Try.f40, _, Try.func40, rfl, by kernel_rfl, by kernel_rfl, by kernel_rfl, rfl, by decide⟩, by kernel_rfl⟩
/-- reeve/geo.Good -/
abbrev f_geo_Good : FuncId := 45
def rc_geo_Good : RCode :=
  (.seq
    (.region [⟨some 1, .none, true, 0, .box 52 (.tmp 0)⟩,
      ⟨some 2, .none, true, 4, .assign (.const (.bool false))⟩])
  (.keep [1]
  (.seq
    (.region [⟨some 3, .none, true, 0, .fieldAddr 52 (.tmp 1) 0⟩,
      ⟨some 4, .none, true, 3, .load 3 (.tmp 3)⟩,
      ⟨some 5, .none, true, 4, .call { callee := .value (.func 58), args := #[.tmp 4, .const (.int .i64 1), .const (.int .i64 4)], argTypes := #[3, 3, 3] }⟩,
      ⟨some 6, .none, true, 4, .move (.tmp 5)⟩,
      ⟨some 7, .some 6 true, true, 0, .fieldAddr 52 (.tmp 1) 1⟩,
      ⟨some 8, .some 6 true, true, 3, .load 3 (.tmp 7)⟩,
      ⟨some 9, .some 6 true, true, 0, .fieldAddr 52 (.tmp 1) 0⟩,
      ⟨some 10, .some 6 true, true, 3, .load 3 (.tmp 9)⟩,
      ⟨some 11, .some 6 true, true, 3, .binOp .mul 3 (.const (.int .i64 8)) (.tmp 10) 3⟩,
      ⟨some 12, .some 6 true, true, 4, .call { callee := .value (.func 58), args := #[.tmp 8, .tmp 11, .const (.int .i64 96)], argTypes := #[3, 3, 3] }⟩,
      ⟨some 13, .none, true, 4, .pick (.tmp 6) (.tmp 12) (.const (.bool false))⟩,
      ⟨some 14, .none, true, 4, .move (.tmp 13)⟩,
      ⟨some 15, .some 14 true, true, 0, .fieldAddr 52 (.tmp 1) 1⟩,
      ⟨some 16, .some 14 true, true, 3, .load 3 (.tmp 15)⟩,
      ⟨some 17, .some 14 true, true, 3, .binOp .rem 3 (.tmp 16) (.const (.int .i64 8)) 3⟩,
      ⟨some 18, .some 14 true, true, 4, .binOp .eql 3 (.tmp 17) (.const (.int .i64 0)) 3⟩,
      ⟨some 19, .none, true, 4, .pick (.tmp 14) (.tmp 18) (.const (.bool false))⟩,
      ⟨some 20, .none, true, 4, .move (.tmp 19)⟩,
      ⟨some 21, .some 20 true, true, 0, .fieldAddr 52 (.tmp 1) 2⟩,
      ⟨some 22, .some 20 true, true, 3, .load 3 (.tmp 21)⟩,
      ⟨some 23, .some 20 true, true, 0, .fieldAddr 52 (.tmp 1) 0⟩,
      ⟨some 24, .some 20 true, true, 3, .load 3 (.tmp 23)⟩,
      ⟨some 25, .some 20 true, true, 3, .binOp .add 3 (.tmp 24) (.const (.int .i64 2)) 3⟩,
      ⟨some 26, .some 20 true, true, 4, .call { callee := .value (.func 58), args := #[.tmp 22, .tmp 25, .const (.int .i64 48)], argTypes := #[3, 3, 3] }⟩,
      ⟨some 27, .none, true, 4, .pick (.tmp 20) (.tmp 26) (.const (.bool false))⟩,
      ⟨some 2, .none, true, 4, .assign (.tmp 27)⟩])
  .ret)))
theorem t_geo_Good : FnT Try.prog f_geo_Good rc_geo_Good [.tmp 2] 1 := ⟨⟨[], Try.f45, _, Try.func45, rfl, by kernel_rfl, by kernel_rfl, by kernel_rfl, rfl, by decide⟩, by kernel_rfl⟩
/-- reeve/gauss.in -/
abbrev f_gauss_in : FuncId := 46
def rc_gauss_in : RCode :=
  (.seq
    (.region [⟨some 2, .none, true, 4, .assign (.const (.bool false))⟩])
  (.keep [0]
  (.seq
    (.region [⟨some 3, .none, true, 2, .move (.tmp 0)⟩,
      ⟨some 4, .none, true, 4, .binOp .geq 2 (.tmp 3) (.const (.int .i64 (-1099511627776))) 2⟩,
      ⟨some 5, .none, true, 4, .move (.tmp 4)⟩,
      ⟨some 6, .some 5 true, true, 2, .move (.tmp 0)⟩,
      ⟨some 7, .some 5 true, true, 4, .binOp .leq 2 (.tmp 6) (.const (.int .i64 1099511627776)) 2⟩,
      ⟨some 8, .none, true, 4, .pick (.tmp 5) (.tmp 7) (.const (.bool false))⟩,
      ⟨some 2, .none, true, 4, .assign (.tmp 8)⟩])
  .ret)))
theorem t_gauss_in : FnT Try.prog f_gauss_in rc_gauss_in [.tmp 2] 1 := ⟨⟨[], Try.f46, _, Try.func46, rfl, by kernel_rfl, by kernel_rfl, by kernel_rfl, rfl, by decide⟩, by kernel_rfl⟩
/-- reeve/gauss.rest -/
abbrev f_gauss_rest : FuncId := 48
def rc_gauss_rest : RCode :=
  (.seq
    (.region [⟨some 2, .none, true, 2, .assign (.const (.int .i64 0))⟩])
  (.keep [0]
  (.seq
    (.region [⟨some 3, .none, true, 2, .move (.tmp 0)⟩,
      ⟨some 4, .none, true, 2, .binOp .rem 2 (.tmp 3) (.const (.int .i64 1000003)) 2⟩,
      ⟨some 5, .none, true, 2, .binOp .add 2 (.tmp 4) (.const (.int .i64 1000003)) 2⟩,
      ⟨some 6, .none, true, 2, .binOp .rem 2 (.tmp 5) (.const (.int .i64 1000003)) 2⟩,
      ⟨some 2, .none, true, 2, .assign (.tmp 6)⟩])
  .ret)))
theorem t_gauss_rest : FnT Try.prog f_gauss_rest rc_gauss_rest [.tmp 2] 1 := ⟨⟨[], Try.f48, _, Try.func48, rfl, by kernel_rfl, by kernel_rfl, by kernel_rfl, rfl, by decide⟩, by kernel_rfl⟩
/-- reeve/gauss.whole -/
abbrev f_gauss_whole : FuncId := 49
def rc_gauss_whole : RCode :=
  (.seq
    (.region [⟨some 2, .none, true, 2, .assign (.const (.int .i64 0))⟩,
      ⟨some 3, .none, true, 4, .assign (.const (.bool false))⟩])
  (.keep [0]
  (.seq
    (.seq
      (.region [⟨some 4, .none, true, 48, .move (.tmp 0)⟩,
        ⟨some 5, .none, true, 4, .binOp .geq 48 (.tmp 4) (.const (.float .f64 14010698440749613056)) 48⟩,
        ⟨some 6, .none, true, 4, .move (.tmp 5)⟩,
        ⟨some 7, .some 6 true, true, 48, .move (.tmp 0)⟩,
        ⟨some 8, .some 6 true, true, 4, .binOp .leq 48 (.tmp 7) (.const (.float .f64 4787326403894837248)) 48⟩,
        ⟨some 9, .none, true, 4, .pick (.tmp 6) (.tmp 8) (.const (.bool false))⟩,
        ⟨some 10, .none, true, 4, .unOp .not 4 (.tmp 9)⟩,
        ⟨some 11, .none, true, 4, .move (.tmp 10)⟩,
        ⟨some 12, .some 11 false, true, 48, .move (.tmp 0)⟩,
        ⟨some 13, .some 11 false, true, 48, .move (.tmp 0)⟩,
        ⟨some 14, .some 11 false, true, 48, .call { callee := .value (.func 59), args := #[.tmp 13], argTypes := #[48] }⟩,
        ⟨some 15, .some 11 false, true, 4, .binOp .neq 48 (.tmp 12) (.tmp 14) 48⟩,
        ⟨some 16, .none, true, 4, .pick (.tmp 11) (.const (.bool true)) (.tmp 15)⟩,
        ⟨some 17, .none, true, 4, .move (.tmp 16)⟩,
        ⟨some 18, .some 17 false, true, 48, .move (.tmp 0)⟩,
        ⟨some 19, .some 17 false, true, 4, .binOp .eql 48 (.tmp 18) (.const (.float .f64 0)) 48⟩,
        ⟨some 20, .some 17 false, true, 4, .move (.tmp 19)⟩,
        ⟨some 21, .some 20 true, true, 48, .move (.tmp 0)⟩,
        ⟨some 22, .some 20 true, true, 4, .call { callee := .value (.func 60), args := #[.tmp 21], argTypes := #[48] }⟩,
        ⟨some 23, .some 17 false, true, 4, .pick (.tmp 20) (.tmp 22) (.const (.bool false))⟩,
        ⟨some 24, .none, true, 4, .pick (.tmp 17) (.const (.bool true)) (.tmp 23)⟩])
    (.keep [0, 24]
    (.cond (.tmp 24)
      (.seq
        (.region [⟨some 2, .none, true, 2, .assign (.const (.int .i64 0))⟩,
          ⟨some 3, .none, true, 4, .assign (.const (.bool false))⟩])
      .ret)
      .skip)))
  (.seq
    (.region [⟨some 25, .none, true, 48, .move (.tmp 0)⟩,
      ⟨some 26, .none, true, 2, .convert 48 2 (.tmp 25)⟩,
      ⟨some 2, .none, true, 2, .assign (.tmp 26)⟩,
      ⟨some 3, .none, true, 4, .assign (.const (.bool true))⟩])
  .ret))))
theorem t_gauss_whole : FnT Try.prog f_gauss_whole rc_gauss_whole [.tmp 2, .tmp 3] 1 := ⟨⟨[], Try.f49, _, Try.func49, rfl, by kernel_rfl, by kernel_rfl, by kernel_rfl, rfl, by decide⟩, by kernel_rfl⟩
/-- slices.Equal[[]uint64,uint64] -/
abbrev f_slices_Equal_S_uint64_uint64 : FuncId := 53
def rc_slices_Equal_S_uint64_uint64l0 : RCode :=
  (.seq
    (.region [⟨some 14, .none, true, 0, .binOp .lss 3 (.tmp 13) (.tmp 12) 3⟩])
  (.keep [0, 1, 12, 13, 14]
  (.seq
    (.cond (.tmp 14)
      .skip
      (.exit 0))
  (.keep [0, 1, 12, 13]
  (.seq
    (.block 1
      (.seq
        (.region [⟨some 15, .none, true, 3, .move (.tmp 13)⟩,
          ⟨some 5, .none, true, 3, .assign (.tmp 15)⟩])
      (.keep [0, 1, 5, 12, 13]
      (.seq
        (.region [⟨some 16, .none, false, 31, .move (.tmp 0)⟩,
          ⟨some 17, .none, false, 3, .move (.tmp 5)⟩,
          ⟨some 18, .none, false, 0, .indexAddr 31 (.tmp 16) (.tmp 17)⟩,
          ⟨some 19, .none, false, 34, .load 34 (.tmp 18)⟩,
          ⟨some 20, .none, false, 31, .move (.tmp 1)⟩,
          ⟨some 21, .none, false, 3, .move (.tmp 5)⟩,
          ⟨some 22, .none, false, 0, .indexAddr 31 (.tmp 20) (.tmp 21)⟩,
          ⟨some 23, .none, false, 34, .load 34 (.tmp 22)⟩,
          ⟨some 24, .none, true, 4, .binOp .neq 34 (.tmp 19) (.tmp 23) 34⟩])
      (.keep [0, 1, 12, 13, 24]
      (.cond (.tmp 24)
        (.seq
          (.region [⟨some 4, .none, true, 4, .assign (.const (.bool false))⟩])
        .ret)
        .skip))))))
  (.keep [0, 1, 12, 13]
  (.region [⟨some 25, .none, true, 3, .binOp .add 3 (.tmp 13) (.const (.int .i64 1)) 3⟩,
    ⟨some 13, .none, true, 3, .move (.tmp 25)⟩])))))))
def rc_slices_Equal_S_uint64_uint64 : RCode :=
  (.seq
    (.region [⟨some 4, .none, true, 4, .assign (.const (.bool false))⟩])
  (.keep [0, 1]
  (.seq
    (.seq
      (.region [⟨some 6, .none, true, 31, .move (.tmp 0)⟩,
        ⟨some 7, .none, true, 3, .call { callee := .builtin .len, args := #[.tmp 6], argTypes := #[31] }⟩,
        ⟨some 8, .none, true, 31, .move (.tmp 1)⟩,
        ⟨some 9, .none, true, 3, .call { callee := .builtin .len, args := #[.tmp 8], argTypes := #[31] }⟩,
        ⟨some 10, .none, true, 4, .binOp .neq 3 (.tmp 7) (.tmp 9) 3⟩])
    (.keep [0, 1, 10]
    (.cond (.tmp 10)
      (.seq
        (.region [⟨some 4, .none, true, 4, .assign (.const (.bool false))⟩])
      .ret)
      .skip)))
  (.seq
    (.seq
      (.region [⟨some 11, .none, true, 31, .move (.tmp 0)⟩,
        ⟨some 12, .none, true, 3, .call { callee := .builtin .len, args := #[.tmp 11], argTypes := #[31] }⟩,
        ⟨some 13, .none, true, 3, .move (.const (.int .i64 0))⟩])
    (.keep [0, 1, 12, 13]
    (.block 0
      (.loop [0, 1, 12, 13] rc_slices_Equal_S_uint64_uint64l0))))
  (.seq
    (.region [⟨some 4, .none, true, 4, .assign (.const (.bool true))⟩])
  .ret)))))
theorem t_slices_Equal_S_uint64_uint64 : FnT Try.prog f_slices_Equal_S_uint64_uint64 rc_slices_Equal_S_uint64_uint64 [.tmp 4] 2 := ⟨⟨[], Try.f53, _, Try.func53, rfl, by kernel_rfl, by kernel_rfl, by kernel_rfl, rfl, by decide⟩, by kernel_rfl⟩
/-- reeve/geo.Copy -/
abbrev f_geo_Copy : FuncId := 54
def rc_geo_Copy : RCode :=
  (.seq
    (.region [⟨some 1, .none, true, 0, .box 52 (.tmp 0)⟩,
      ⟨some 2, .none, true, 3, .assign (.const (.int .i64 0))⟩])
  (.keep [1]
  (.seq
    (.seq
      (.region [⟨some 3, .none, true, 52, .load 52 (.tmp 1)⟩,
        ⟨some 4, .none, true, 4, .call { callee := .value (.func 45), args := #[.tmp 3], argTypes := #[52] }⟩,
        ⟨some 5, .none, true, 4, .unOp .not 4 (.tmp 4)⟩])
    (.keep [1, 5]
    (.cond (.tmp 5)
      (.seq
        (.region [⟨some 2, .none, true, 3, .assign (.const (.int .i64 0))⟩])
      .ret)
      .skip)))
  (.seq
    (.region [⟨some 6, .none, false, 52, .load 52 (.tmp 1)⟩,
      ⟨some 7, .none, false, 3, .call { callee := .value (.func 62), args := #[.tmp 6], argTypes := #[52] }⟩,
      ⟨some 8, .none, false, 0, .fieldAddr 52 (.tmp 1) 2⟩,
      ⟨some 9, .none, false, 3, .load 3 (.tmp 8)⟩,
      ⟨some 10, .none, false, 3, .binOp .mul 3 (.const (.int .i64 8)) (.tmp 9) 3⟩,
      ⟨some 11, .none, true, 3, .binOp .add 3 (.tmp 7) (.tmp 10) 3⟩,
      ⟨some 2, .none, true, 3, .assign (.tmp 11)⟩])
  .ret))))
theorem t_geo_Copy : FnT Try.prog f_geo_Copy rc_geo_Copy [.tmp 2] 1 := ⟨⟨[], Try.f54, _, Try.func54, rfl, by kernel_rfl, by kernel_rfl, by kernel_rfl, rfl, by decide⟩, by kernel_rfl⟩
/-- reeve/geo.in -/
abbrev f_geo_in : FuncId := 58
def rc_geo_in : RCode :=
  (.seq
    (.region [⟨some 6, .none, true, 4, .assign (.const (.bool false))⟩])
  (.keep [0, 1, 2]
  (.seq
    (.region [⟨some 7, .none, true, 3, .move (.tmp 0)⟩,
      ⟨some 8, .none, true, 3, .move (.tmp 1)⟩,
      ⟨some 9, .none, true, 4, .binOp .geq 3 (.tmp 7) (.tmp 8) 3⟩,
      ⟨some 10, .none, true, 4, .move (.tmp 9)⟩,
      ⟨some 11, .some 10 true, true, 3, .move (.tmp 0)⟩,
      ⟨some 12, .some 10 true, true, 3, .move (.tmp 2)⟩,
      ⟨some 13, .some 10 true, true, 4, .binOp .leq 3 (.tmp 11) (.tmp 12) 3⟩,
      ⟨some 14, .none, true, 4, .pick (.tmp 10) (.tmp 13) (.const (.bool false))⟩,
      ⟨some 6, .none, true, 4, .assign (.tmp 14)⟩])
  .ret)))
theorem t_geo_in : FnT Try.prog f_geo_in rc_geo_in [.tmp 6] 3 := ⟨⟨[], Try.f58, _, Try.func58, rfl, by kernel_rfl, by kernel_rfl, by kernel_rfl, rfl, by decide⟩, by kernel_rfl⟩
/-- math.Trunc -/
abbrev f_math_Trunc : FuncId := 59
def rc_math_Trunc : RCode :=
  (.seq
    (.region [⟨some 2, .none, true, 48, .assign (.const (.float .f64 0))⟩])
  (.keep [0]
  (.seq
    (.cond (.const (.bool true))
      (.seq
        (.region [⟨some 3, .none, true, 48, .move (.tmp 0)⟩,
          ⟨some 4, .none, true, 48, .call { callee := .value (.func 64), args := #[.tmp 3], argTypes := #[48] }⟩,
          ⟨some 2, .none, true, 48, .assign (.tmp 4)⟩])
      .ret)
      .skip)
  (.keep [0]
  (.seq
    (.region [⟨some 5, .none, true, 48, .move (.tmp 0)⟩,
      ⟨some 6, .none, true, 48, .call { callee := .value (.func 65), args := #[.tmp 5], argTypes := #[48] }⟩,
      ⟨some 2, .none, true, 48, .assign (.tmp 6)⟩])
  .ret)))))
theorem t_math_Trunc : FnT Try.prog f_math_Trunc rc_math_Trunc [.tmp 2] 1 := ⟨⟨[], Try.f59, _, Try.func59, rfl, by kernel_rfl, by kernel_rfl, by kernel_rfl, rfl, by decide⟩, by kernel_rfl⟩
/-- math.Signbit -/
abbrev f_math_Signbit : FuncId := 60
def rc_math_Signbit : RCode :=
  (.seq
    (.region [⟨some 2, .none, true, 4, .assign (.const (.bool false))⟩])
  (.keep [0]
  (.seq
    (.region [⟨some 3, .none, true, 48, .move (.tmp 0)⟩,
      ⟨some 4, .none, true, 34, .call { callee := .value (.func 66), args := #[.tmp 3], argTypes := #[48] }⟩,
      ⟨some 5, .none, true, 2, .convert 34 2 (.tmp 4)⟩,
      ⟨some 6, .none, true, 4, .binOp .lss 2 (.tmp 5) (.const (.int .i64 0)) 2⟩,
      ⟨some 2, .none, true, 4, .assign (.tmp 6)⟩])
  .ret)))
theorem t_math_Signbit : FnT Try.prog f_math_Signbit rc_math_Signbit [.tmp 2] 1 := ⟨⟨[], Try.f60, _, Try.func60, rfl, by kernel_rfl, by kernel_rfl, by kernel_rfl, rfl, by decide⟩, by kernel_rfl⟩
/-- reeve/geo.thingsAt -/
abbrev f_geo_thingsAt : FuncId := 62
def rc_geo_thingsAt : RCode :=
  (.seq
    (.region [⟨some 1, .none, true, 0, .box 52 (.tmp 0)⟩,
      ⟨some 2, .none, true, 3, .assign (.const (.int .i64 0))⟩])
  (.keep [1]
  (.seq
    (.region [⟨some 3, .none, false, 52, .load 52 (.tmp 1)⟩,
      ⟨some 4, .none, false, 3, .call { callee := .value (.func 67), args := #[.tmp 3], argTypes := #[52] }⟩,
      ⟨some 5, .none, false, 0, .fieldAddr 52 (.tmp 1) 1⟩,
      ⟨some 6, .none, false, 3, .load 3 (.tmp 5)⟩,
      ⟨some 7, .none, false, 3, .binOp .mul 3 (.const (.int .i64 2)) (.tmp 6) 3⟩,
      ⟨some 8, .none, true, 3, .binOp .add 3 (.tmp 4) (.tmp 7) 3⟩,
      ⟨some 2, .none, true, 3, .assign (.tmp 8)⟩])
  .ret)))
theorem t_geo_thingsAt : FnT Try.prog f_geo_thingsAt rc_geo_thingsAt [.tmp 2] 1 := ⟨⟨[], Try.f62, _, Try.func62, rfl, by kernel_rfl, by kernel_rfl, by kernel_rfl, rfl, by decide⟩, by kernel_rfl⟩
/-- math.trunc -/
abbrev f_math_trunc : FuncId := 65
def rc_math_trunc : RCode :=
  (.seq
    (.region [⟨some 2, .none, true, 48, .assign (.const (.float .f64 0))⟩])
  (.keep [0]
  (.seq
    (.seq
      (.region [⟨some 5, .none, true, 48, .move (.tmp 0)⟩,
        ⟨some 6, .none, true, 48, .call { callee := .value (.func 69), args := #[.tmp 5], argTypes := #[48] }⟩,
        ⟨some 7, .none, true, 4, .binOp .lss 48 (.tmp 6) (.const (.float .f64 4607182418800017408)) 48⟩])
    (.keep [0, 7]
    (.cond (.tmp 7)
      (.seq
        (.region [⟨some 8, .none, true, 48, .move (.tmp 0)⟩,
          ⟨some 9, .none, true, 48, .call { callee := .value (.func 70), args := #[.const (.float .f64 0), .tmp 8], argTypes := #[48, 48] }⟩,
          ⟨some 2, .none, true, 48, .assign (.tmp 9)⟩])
      .ret)
      .skip)))
  (.seq
    (.region [⟨some 10, .none, true, 48, .move (.tmp 0)⟩,
      ⟨some 11, .none, true, 34, .call { callee := .value (.func 66), args := #[.tmp 10], argTypes := #[48] }⟩,
      ⟨some 3, .none, true, 34, .assign (.tmp 11)⟩])
  (.keep [3]
  (.seq
    (.region [⟨some 12, .none, true, 34, .move (.tmp 3)⟩,
      ⟨some 13, .none, true, 34, .binOp .shr 34 (.tmp 12) (.const (.int .u64 52)) 33⟩,
      ⟨some 14, .none, true, 33, .binOp .and 33 (.tmp 13) (.const (.int .u64 2047)) 33⟩,
      ⟨some 15, .none, true, 33, .binOp .sub 33 (.tmp 14) (.const (.int .u64 1023)) 33⟩,
      ⟨some 4, .none, true, 33, .assign (.tmp 15)⟩])
  (.keep [3, 4]
  (.seq
    (.seq
      (.region [⟨some 16, .none, true, 33, .move (.tmp 4)⟩,
        ⟨some 17, .none, true, 4, .binOp .lss 33 (.tmp 16) (.const (.int .u64 52)) 33⟩])
    (.keep [3, 4, 17]
    (.cond (.tmp 17)
      (.region [⟨some 18, .none, true, 34, .move (.tmp 3)⟩,
        ⟨some 19, .none, true, 33, .move (.tmp 4)⟩,
        ⟨some 20, .none, true, 33, .binOp .sub 33 (.const (.int .u64 52)) (.tmp 19) 33⟩,
        ⟨some 21, .none, true, 34, .binOp .shl 34 (.const (.int .u64 1)) (.tmp 20) 33⟩,
        ⟨some 22, .none, true, 34, .binOp .sub 34 (.tmp 21) (.const (.int .u64 1)) 34⟩,
        ⟨some 23, .none, true, 34, .binOp .andNot 34 (.tmp 18) (.tmp 22) 34⟩,
        ⟨some 3, .none, true, 34, .assign (.tmp 23)⟩])
      .skip)))
  (.seq
    (.region [⟨some 24, .none, true, 34, .move (.tmp 3)⟩,
      ⟨some 25, .none, true, 48, .call { callee := .value (.func 71), args := #[.tmp 24], argTypes := #[34] }⟩,
      ⟨some 2, .none, true, 48, .assign (.tmp 25)⟩])
  .ret)))))))))
theorem t_math_trunc : FnT Try.prog f_math_trunc rc_math_trunc [.tmp 2] 1 := ⟨⟨[], Try.f65, _, Try.func65, rfl, by kernel_rfl, by kernel_rfl, by kernel_rfl, rfl, by decide⟩, by kernel_rfl⟩
/-- reeve/geo.slotsAt -/
abbrev f_geo_slotsAt : FuncId := 67
def rc_geo_slotsAt : RCode :=
  (.seq
    (.region [⟨some 1, .none, true, 0, .box 52 (.tmp 0)⟩,
      ⟨some 2, .none, true, 3, .assign (.const (.int .i64 0))⟩])
  (.keep [1]
  (.seq
    (.region [⟨some 3, .none, true, 0, .fieldAddr 52 (.tmp 1) 0⟩,
      ⟨some 4, .none, true, 3, .load 3 (.tmp 3)⟩,
      ⟨some 5, .none, true, 3, .binOp .mul 3 (.tmp 4) (.const (.int .i64 1208)) 3⟩,
      ⟨some 6, .none, true, 3, .binOp .add 3 (.const (.int .i64 16)) (.tmp 5) 3⟩,
      ⟨some 2, .none, true, 3, .assign (.tmp 6)⟩])
  .ret)))
theorem t_geo_slotsAt : FnT Try.prog f_geo_slotsAt rc_geo_slotsAt [.tmp 2] 1 := ⟨⟨[], Try.f67, _, Try.func67, rfl, by kernel_rfl, by kernel_rfl, by kernel_rfl, rfl, by decide⟩, by kernel_rfl⟩
/-- math.Abs -/
abbrev f_math_Abs : FuncId := 69
def rc_math_Abs : RCode :=
  (.seq
    (.region [⟨some 2, .none, true, 48, .assign (.const (.float .f64 0))⟩])
  (.keep [0]
  (.seq
    (.region [⟨some 3, .none, true, 48, .move (.tmp 0)⟩,
      ⟨some 4, .none, true, 34, .call { callee := .value (.func 66), args := #[.tmp 3], argTypes := #[48] }⟩,
      ⟨some 5, .none, true, 34, .binOp .andNot 34 (.tmp 4) (.const (.int .u64 9223372036854775808)) 34⟩,
      ⟨some 6, .none, true, 48, .call { callee := .value (.func 71), args := #[.tmp 5], argTypes := #[34] }⟩,
      ⟨some 2, .none, true, 48, .assign (.tmp 6)⟩])
  .ret)))
theorem t_math_Abs : FnT Try.prog f_math_Abs rc_math_Abs [.tmp 2] 1 := ⟨⟨[], Try.f69, _, Try.func69, rfl, by kernel_rfl, by kernel_rfl, by kernel_rfl, rfl, by decide⟩, by kernel_rfl⟩
/-- math.Copysign -/
abbrev f_math_Copysign : FuncId := 70
def rc_math_Copysign : RCode :=
  (.seq
    (.region [⟨some 4, .none, true, 48, .assign (.const (.float .f64 0))⟩])
  (.keep [0, 1]
  (.seq
    (.region [⟨some 5, .none, true, 48, .move (.tmp 0)⟩,
      ⟨some 6, .none, true, 34, .call { callee := .value (.func 66), args := #[.tmp 5], argTypes := #[48] }⟩,
      ⟨some 7, .none, true, 34, .binOp .andNot 34 (.tmp 6) (.const (.int .u64 9223372036854775808)) 34⟩,
      ⟨some 8, .none, true, 48, .move (.tmp 1)⟩,
      ⟨some 9, .none, true, 34, .call { callee := .value (.func 66), args := #[.tmp 8], argTypes := #[48] }⟩,
      ⟨some 10, .none, true, 34, .binOp .and 34 (.tmp 9) (.const (.int .u64 9223372036854775808)) 34⟩,
      ⟨some 11, .none, true, 34, .binOp .or 34 (.tmp 7) (.tmp 10) 34⟩,
      ⟨some 12, .none, true, 48, .call { callee := .value (.func 71), args := #[.tmp 11], argTypes := #[34] }⟩,
      ⟨some 4, .none, true, 48, .assign (.tmp 12)⟩])
  .ret)))
theorem t_math_Copysign : FnT Try.prog f_math_Copysign rc_math_Copysign [.tmp 4] 2 := ⟨⟨[], Try.f70, _, Try.func70, rfl, by kernel_rfl, by kernel_rfl, by kernel_rfl, rfl, by decide⟩, by kernel_rfl⟩
def tab : XTab :=
  [(11, rc_reevelaw6_SuperKnown, [.tmp 0], 0),
   (15, rc_gauss_Of, [.tmp 4, .tmp 5], 2),
   (16, rc_gauss_Turn, [.tmp 4], 2),
   (20, rc_gauss_Spin, [.tmp 2], 1),
   (21, rc_gauss_Parts, [.tmp 2, .tmp 3, .tmp 4], 1),
   (23, rc_gauss_Word, [.tmp 2, .tmp 3], 1),
   (34, rc_reevelaw6_awake, [.tmp 0], 0),
   (35, rc_super_Put, [.tmp 2], 1),
   (36, rc_super_Get, [.cell 2 54, .tmp 3], 1),
   (38, rc_geo_Plain, [.cell 0 52], 0),
   (39, rc_geo_Rows, [.tmp 2], 1),
   (40, rc_super_Find, [.cell 2 54, .tmp 3, .tmp 4], 1),
   (45, rc_geo_Good, [.tmp 2], 1),
   (46, rc_gauss_in, [.tmp 2], 1),
   (48, rc_gauss_rest, [.tmp 2], 1),
   (49, rc_gauss_whole, [.tmp 2, .tmp 3], 1),
   (53, rc_slices_Equal_S_uint64_uint64, [.tmp 4], 2),
   (54, rc_geo_Copy, [.tmp 2], 1),
   (58, rc_geo_in, [.tmp 6], 3),
   (59, rc_math_Trunc, [.tmp 2], 1),
   (60, rc_math_Signbit, [.tmp 2], 1),
   (62, rc_geo_thingsAt, [.tmp 2], 1),
   (65, rc_math_trunc, [.tmp 2], 1),
   (67, rc_geo_slotsAt, [.tmp 2], 1),
   (69, rc_math_Abs, [.tmp 2], 1),
   (70, rc_math_Copysign, [.tmp 4], 2)]
theorem tabOk : TabOk Try.prog tab :=
  .cons t_reevelaw6_SuperKnown <|
  .cons t_gauss_Of <|
  .cons t_gauss_Turn <|
  .cons t_gauss_Spin <|
  .cons t_gauss_Parts <|
  .cons t_gauss_Word <|
  .cons t_reevelaw6_awake <|
  .cons t_super_Put <|
  .cons t_super_Get <|
  .cons t_geo_Plain <|
  .cons t_geo_Rows <|
  .cons t_super_Find <|
  .cons t_geo_Good <|
  .cons t_gauss_in <|
  .cons t_gauss_rest <|
  .cons t_gauss_whole <|
  .cons t_slices_Equal_S_uint64_uint64 <|
  .cons t_geo_Copy <|
  .cons t_geo_in <|
  .cons t_math_Trunc <|
  .cons t_math_Signbit <|
  .cons t_geo_thingsAt <|
  .cons t_math_trunc <|
  .cons t_geo_slotsAt <|
  .cons t_math_Abs <|
  .cons t_math_Copysign <| .nil

end Go.Proofs.Ytcndbfekcmalmaa.F6K
