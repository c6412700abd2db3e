/- Functions of the program made ready for walking, each with its proof; facts of types. Written by gen2.py. -/
import Derived.Test.YtcndbfekcmalmaaProg
import Derived.Test.YtcndbfekcmalmaaAbsD
set_option linter.unusedVariables false
set_option maxRecDepth 100000
namespace Go.Proofs.Ytcndbfekcmalmaa.F1
open Go Go.Proofs Go.Proofs.YtcndbfekcmalmaaAbs
theorem hm : Try.prog.follows .mixedOrders = true := by kernel_rfl
/-- math.archTrunc (without a body) -/
abbrev f_math_archTrunc : FuncId := 64
/-- math.Float64bits (without a body) -/
abbrev f_math_Float64bits : FuncId := 66
/-- math.Float64frombits (without a body) -/
abbrev f_math_Float64frombits : FuncId := 71
abbrev T_int64 : TypeId := 2
theorem ts_int64 : tsize Try.prog 2 = some 1 := by kernel_rfl
theorem tb_int64 : tbytes Try.prog 2 = some 8 := by kernel_rfl
theorem ta_int64 : tagg Try.prog 2 = some false := by kernel_rfl
theorem tz_int64 : zeroFlat Try.prog 2 = some [.int .i64 0] := by kernel_rfl
theorem tv_int64 : tzero Try.prog 2 = some (.int .i64 0) := by kernel_rfl
theorem tu_int64 : Try.prog.underlying 2 = some (.int .i64) := by kernel_rfl
abbrev T_int : TypeId := 3
theorem ts_int : tsize Try.prog 3 = some 1 := by kernel_rfl
theorem tb_int : tbytes Try.prog 3 = some 8 := by kernel_rfl
theorem ta_int : tagg Try.prog 3 = some false := by kernel_rfl
theorem tz_int : zeroFlat Try.prog 3 = some [.int .i64 0] := by kernel_rfl
theorem tv_int : tzero Try.prog 3 = some (.int .i64 0) := by kernel_rfl
theorem tu_int : Try.prog.underlying 3 = some (.int .i64) := by kernel_rfl
abbrev T_bool : TypeId := 4
theorem ts_bool : tsize Try.prog 4 = some 1 := by kernel_rfl
theorem tb_bool : tbytes Try.prog 4 = some 1 := by kernel_rfl
theorem ta_bool : tagg Try.prog 4 = some false := by kernel_rfl
theorem tz_bool : zeroFlat Try.prog 4 = some [.bool false] := by kernel_rfl
theorem tv_bool : tzero Try.prog 4 = some (.bool false) := by kernel_rfl
theorem tu_bool : Try.prog.underlying 4 = some (.bool) := by kernel_rfl
abbrev T_complex128 : TypeId := 23
theorem ts_complex128 : tsize Try.prog 23 = some 1 := by kernel_rfl
theorem tb_complex128 : tbytes Try.prog 23 = some 16 := by kernel_rfl
theorem ta_complex128 : tagg Try.prog 23 = some false := by kernel_rfl
theorem tz_complex128 : zeroFlat Try.prog 23 = some [.complex .f64 0 0] := by kernel_rfl
theorem tv_complex128 : tzero Try.prog 23 = some (.complex .f64 0 0) := by kernel_rfl
theorem tu_complex128 : Try.prog.underlying 23 = some (.complex .f64) := by kernel_rfl
abbrev T_S_uint64 : TypeId := 31
abbrev T_uint64 : TypeId := 34
theorem ts_uint64 : tsize Try.prog 34 = some 1 := by kernel_rfl
theorem tb_uint64 : tbytes Try.prog 34 = some 8 := by kernel_rfl
theorem ta_uint64 : tagg Try.prog 34 = some false := by kernel_rfl
theorem tz_uint64 : zeroFlat Try.prog 34 = some [.int .u64 0] := by kernel_rfl
theorem tv_uint64 : tzero Try.prog 34 = some (.int .u64 0) := by kernel_rfl
theorem tu_uint64 : Try.prog.underlying 34 = some (.int .u64) := by kernel_rfl
theorem ts_S_uint64 : tsize Try.prog 31 = some 1 := by kernel_rfl
theorem tb_S_uint64 : tbytes Try.prog 31 = some 24 := by kernel_rfl
theorem ta_S_uint64 : tagg Try.prog 31 = some false := by kernel_rfl
theorem tz_S_uint64 : zeroFlat Try.prog 31 = some [.slice none 0 0] := by kernel_rfl
theorem tv_S_uint64 : tzero Try.prog 31 = some (.slice none 0 0) := by kernel_rfl
theorem tu_S_uint64 : Try.prog.underlying 31 = some (.slice 34) := by kernel_rfl
abbrev T_uint16 : TypeId := 32
theorem ts_uint16 : tsize Try.prog 32 = some 1 := by kernel_rfl
theorem tb_uint16 : tbytes Try.prog 32 = some 2 := by kernel_rfl
theorem ta_uint16 : tagg Try.prog 32 = some false := by kernel_rfl
theorem tz_uint16 : zeroFlat Try.prog 32 = some [.int .u16 0] := by kernel_rfl
theorem tv_uint16 : tzero Try.prog 32 = some (.int .u16 0) := by kernel_rfl
theorem tu_uint16 : Try.prog.underlying 32 = some (.int .u16) := by kernel_rfl
abbrev T_uint : TypeId := 33
theorem ts_uint : tsize Try.prog 33 = some 1 := by kernel_rfl
theorem tb_uint : tbytes Try.prog 33 = some 8 := by kernel_rfl
theorem ta_uint : tagg Try.prog 33 = some false := by kernel_rfl
theorem tz_uint : zeroFlat Try.prog 33 = some [.int .u64 0] := by kernel_rfl
theorem tv_uint : tzero Try.prog 33 = some (.int .u64 0) := by kernel_rfl
theorem tu_uint : Try.prog.underlying 33 = some (.int .u64) := by kernel_rfl
abbrev T_uint32 : TypeId := 41
theorem ts_uint32 : tsize Try.prog 41 = some 1 := by kernel_rfl
theorem tb_uint32 : tbytes Try.prog 41 = some 4 := by kernel_rfl
theorem ta_uint32 : tagg Try.prog 41 = some false := by kernel_rfl
theorem tz_uint32 : zeroFlat Try.prog 41 = some [.int .u32 0] := by kernel_rfl
theorem tv_uint32 : tzero Try.prog 41 = some (.int .u32 0) := by kernel_rfl
theorem tu_uint32 : Try.prog.underlying 41 = some (.int .u32) := by kernel_rfl
abbrev T_int32 : TypeId := 21
theorem ts_int32 : tsize Try.prog 21 = some 1 := by kernel_rfl
theorem tb_int32 : tbytes Try.prog 21 = some 4 := by kernel_rfl
theorem ta_int32 : tagg Try.prog 21 = some false := by kernel_rfl
theorem tz_int32 : zeroFlat Try.prog 21 = some [.int .i32 0] := by kernel_rfl
theorem tv_int32 : tzero Try.prog 21 = some (.int .i32 0) := by kernel_rfl
theorem tu_int32 : Try.prog.underlying 21 = some (.int .i32) := by kernel_rfl
abbrev T_int16 : TypeId := 45
theorem ts_int16 : tsize Try.prog 45 = some 1 := by kernel_rfl
theorem tb_int16 : tbytes Try.prog 45 = some 2 := by kernel_rfl
theorem ta_int16 : tagg Try.prog 45 = some false := by kernel_rfl
theorem tz_int16 : zeroFlat Try.prog 45 = some [.int .i16 0] := by kernel_rfl
theorem tv_int16 : tzero Try.prog 45 = some (.int .i16 0) := by kernel_rfl
theorem tu_int16 : Try.prog.underlying 45 = some (.int .i16) := by kernel_rfl
abbrev T_float64 : TypeId := 48
theorem ts_float64 : tsize Try.prog 48 = some 1 := by kernel_rfl
theorem tb_float64 : tbytes Try.prog 48 = some 8 := by kernel_rfl
theorem ta_float64 : tagg Try.prog 48 = some false := by kernel_rfl
theorem tz_float64 : zeroFlat Try.prog 48 = some [.float .f64 0] := by kernel_rfl
theorem tv_float64 : tzero Try.prog 48 = some (.float .f64 0) := by kernel_rfl
theorem tu_float64 : Try.prog.underlying 48 = some (.float .f64) := by kernel_rfl
theorem bl_S_uint64 : ∀ (ty : TypeId) (ev : Operand → Value) (g : AMem) (n : Nat) (len : Nat) (parts : Array (Nat × Operand)), len * 1 ≤ 16777216 → aOp Try.prog ty ev g n (.buildSlice 31 len parts) = (fillS 1 (zeroRow [.int .u64 0] len) (parts.toList.map fun p => (p.1, ev p.2))).map fun cs => (.slice (some ⟨n, 0, none⟩) len 1, .new (.row cs true)) := fun ty ev g n len parts hb => aOp_buildL tu_S_uint64 tz_uint64 ts_uint64 rfl ty ev g n len parts hb
theorem ap_S_uint64 : ∀ (g : AMem) (n : Nat) (s x : Value), aAppend Try.prog g n 31 s x = appR g n 0 8 s (aRead g 1 x) := inst_append tu_S_uint64 ts_uint64 tb_uint64 tv_uint64 rfl
theorem mk_S_uint64 : ∀ (n : Nat) (k k' : IntKind) (l c : Int), aMake Try.prog n 31 (.int k l) (.int k' c) = if 0 ≤ l ∧ l ≤ c ∧ c ≤ 70368744177664 ∧ 8 * c.toNat ≤ 70368744177664 then some (.slice (some ⟨n, 0, none⟩) l.toNat 1, .new (.row (zeroRow [.int .u64 0] l.toNat) true)) else none := inst_make tu_S_uint64 ts_uint64 tb_uint64 tv_uint64 rfl rfl
theorem sl_S_uint64 : ∀ (ty : TypeId) (ev : Operand → Value) (g : AMem) (n : Nat) (x : Operand) (lo hi : Option Operand), aOp Try.prog ty ev g n (.slice 31 x lo hi none) = (slR 1 (ev x) (lo.map ev) (hi.map ev)).map fun v => (v, .none) := aOp_sliceS tu_S_uint64 ts_uint64
theorem cp_S_uint64 : ∀ (g : AMem) (d s : Value), aCopy Try.prog g 31 d s = cpR g 1 d (aRead g 1 s) := aCopy_eq tu_S_uint64 ts_uint64
theorem q_int64 : (tsize Try.prog 2 = some 1) ∧ (tagg Try.prog 2 = some false) ∧ (zeroFlat Try.prog 2 = some [.int .i64 0]) ∧ (Try.prog.underlying 2 = some (.int .i64)) := ⟨ts_int64, ta_int64, tz_int64, tu_int64⟩
theorem q_int : (tsize Try.prog 3 = some 1) ∧ (tagg Try.prog 3 = some false) ∧ (zeroFlat Try.prog 3 = some [.int .i64 0]) ∧ (Try.prog.underlying 3 = some (.int .i64)) := ⟨ts_int, ta_int, tz_int, tu_int⟩
theorem q_bool : (tsize Try.prog 4 = some 1) ∧ (tagg Try.prog 4 = some false) ∧ (zeroFlat Try.prog 4 = some [.bool false]) ∧ (Try.prog.underlying 4 = some (.bool)) := ⟨ts_bool, ta_bool, tz_bool, tu_bool⟩
theorem q_int32 : (tsize Try.prog 21 = some 1) ∧ (tagg Try.prog 21 = some false) ∧ (zeroFlat Try.prog 21 = some [.int .i32 0]) ∧ (Try.prog.underlying 21 = some (.int .i32)) := ⟨ts_int32, ta_int32, tz_int32, tu_int32⟩
theorem q_complex128 : (tsize Try.prog 23 = some 1) ∧ (tagg Try.prog 23 = some false) ∧ (zeroFlat Try.prog 23 = some [.complex .f64 0 0]) ∧ (Try.prog.underlying 23 = some (.complex .f64)) := ⟨ts_complex128, ta_complex128, tz_complex128, tu_complex128⟩
theorem q_S_uint64 : (tsize Try.prog 31 = some 1) ∧ (tagg Try.prog 31 = some false) ∧ (zeroFlat Try.prog 31 = some [.slice none 0 0]) ∧ (Try.prog.underlying 31 = some (.slice 34)) ∧ (∀ (ty : TypeId) (ev : Operand → Value) (g : AMem) (n : Nat) (len : Nat) (parts : Array (Nat × Operand)), len * 1 ≤ 16777216 → aOp Try.prog ty ev g n (.buildSlice 31 len parts) = (fillS 1 (zeroRow [.int .u64 0] len) (parts.toList.map fun p => (p.1, ev p.2))).map fun cs => (.slice (some ⟨n, 0, none⟩) len 1, .new (.row cs true))) ∧ (∀ (g : AMem) (n : Nat) (s x : Value), aAppend Try.prog g n 31 s x = appR g n 0 8 s (aRead g 1 x)) ∧ (∀ (n : Nat) (k k' : IntKind) (l c : Int), aMake Try.prog n 31 (.int k l) (.int k' c) = if 0 ≤ l ∧ l ≤ c ∧ c ≤ 70368744177664 ∧ 8 * c.toNat ≤ 70368744177664 then some (.slice (some ⟨n, 0, none⟩) l.toNat 1, .new (.row (zeroRow [.int .u64 0] l.toNat) true)) else none) ∧ (∀ (ty : TypeId) (ev : Operand → Value) (g : AMem) (n : Nat) (x : Operand) (lo hi : Option Operand), aOp Try.prog ty ev g n (.slice 31 x lo hi none) = (slR 1 (ev x) (lo.map ev) (hi.map ev)).map fun v => (v, .none)) ∧ (∀ (g : AMem) (d s : Value), aCopy Try.prog g 31 d s = cpR g 1 d (aRead g 1 s)) := ⟨ts_S_uint64, ta_S_uint64, tz_S_uint64, tu_S_uint64, bl_S_uint64, ap_S_uint64, mk_S_uint64, sl_S_uint64, cp_S_uint64⟩
theorem q_uint16 : (tsize Try.prog 32 = some 1) ∧ (tagg Try.prog 32 = some false) ∧ (zeroFlat Try.prog 32 = some [.int .u16 0]) ∧ (Try.prog.underlying 32 = some (.int .u16)) := ⟨ts_uint16, ta_uint16, tz_uint16, tu_uint16⟩
theorem q_uint : (tsize Try.prog 33 = some 1) ∧ (tagg Try.prog 33 = some false) ∧ (zeroFlat Try.prog 33 = some [.int .u64 0]) ∧ (Try.prog.underlying 33 = some (.int .u64)) := ⟨ts_uint, ta_uint, tz_uint, tu_uint⟩
theorem q_uint64 : (tsize Try.prog 34 = some 1) ∧ (tagg Try.prog 34 = some false) ∧ (zeroFlat Try.prog 34 = some [.int .u64 0]) ∧ (Try.prog.underlying 34 = some (.int .u64)) := ⟨ts_uint64, ta_uint64, tz_uint64, tu_uint64⟩
theorem q_uint32 : (tsize Try.prog 41 = some 1) ∧ (tagg Try.prog 41 = some false) ∧ (zeroFlat Try.prog 41 = some [.int .u32 0]) ∧ (Try.prog.underlying 41 = some (.int .u32)) := ⟨ts_uint32, ta_uint32, tz_uint32, tu_uint32⟩
theorem q_int16 : (tsize Try.prog 45 = some 1) ∧ (tagg Try.prog 45 = some false) ∧ (zeroFlat Try.prog 45 = some [.int .i16 0]) ∧ (Try.prog.underlying 45 = some (.int .i16)) := ⟨ts_int16, ta_int16, tz_int16, tu_int16⟩
theorem q_float64 : (tsize Try.prog 48 = some 1) ∧ (tagg Try.prog 48 = some false) ∧ (zeroFlat Try.prog 48 = some [.float .f64 0]) ∧ (Try.prog.underlying 48 = some (.float .f64)) := ⟨ts_float64, ta_float64, tz_float64, tu_float64⟩
/-- reeve/reevelaw1.GaussTurns -/
abbrev f_reevelaw1_GaussTurns : FuncId := 3
def rc_reevelaw1_GaussTurns : RCode :=
  (.seq
    (.region [⟨some 8, .none, true, 4, .assign (.const (.bool false))⟩])
  (.keep [0, 1, 2, 3]
  (.seq
    (.seq
      (.region [⟨some 14, .none, true, 4, .call { callee := .value (.func 14), args := #[], argTypes := #[] }⟩,
        ⟨some 15, .none, true, 4, .unOp .not 4 (.tmp 14)⟩])
    (.keep [0, 1, 2, 3, 15]
    (.cond (.tmp 15)
      (.seq
        (.region [⟨some 8, .none, true, 4, .assign (.const (.bool false))⟩])
      .ret)
      .skip)))
  (.seq
    (.region [⟨some 17, .none, true, 2, .move (.tmp 0)⟩,
      ⟨some 18, .none, true, 2, .move (.tmp 1)⟩,
      ⟨some 19, .none, true, 24, .call { callee := .value (.func 15), args := #[.tmp 17, .tmp 18], argTypes := #[2, 2] }⟩,
      ⟨some 16, .none, true, 24, .move (.tmp 19)⟩,
      ⟨some 20, .none, true, 23, .extract (.tmp 16) 0⟩,
      ⟨some 21, .none, true, 4, .extract (.tmp 16) 1⟩,
      ⟨some 9, .none, true, 23, .assign (.tmp 20)⟩,
      ⟨some 10, .none, true, 4, .assign (.tmp 21)⟩])
  (.keep [2, 3, 9, 10]
  (.seq
    (.seq
      (.region [⟨some 22, .none, true, 4, .move (.tmp 10)⟩,
        ⟨some 23, .none, true, 4, .unOp .not 4 (.tmp 22)⟩,
        ⟨some 24, .none, true, 4, .move (.tmp 23)⟩,
        ⟨some 25, .some 24 false, true, 3, .move (.tmp 2)⟩,
        ⟨some 26, .some 24 false, true, 4, .binOp .gtr 3 (.tmp 25) (.const (.int .i64 1099511627776)) 3⟩,
        ⟨some 27, .none, true, 4, .pick (.tmp 24) (.const (.bool true)) (.tmp 26)⟩,
        ⟨some 28, .none, true, 4, .move (.tmp 27)⟩,
        ⟨some 29, .some 28 false, true, 3, .move (.tmp 2)⟩,
        ⟨some 30, .some 28 false, true, 4, .binOp .lss 3 (.tmp 29) (.const (.int .i64 (-1099511627776))) 3⟩,
        ⟨some 31, .none, true, 4, .pick (.tmp 28) (.const (.bool true)) (.tmp 30)⟩,
        ⟨some 32, .none, true, 4, .move (.tmp 31)⟩,
        ⟨some 33, .some 32 false, true, 3, .move (.tmp 3)⟩,
        ⟨some 34, .some 32 false, true, 4, .binOp .gtr 3 (.tmp 33) (.const (.int .i64 1099511627776)) 3⟩,
        ⟨some 35, .none, true, 4, .pick (.tmp 32) (.const (.bool true)) (.tmp 34)⟩,
        ⟨some 36, .none, true, 4, .move (.tmp 35)⟩,
        ⟨some 37, .some 36 false, true, 3, .move (.tmp 3)⟩,
        ⟨some 38, .some 36 false, true, 4, .binOp .lss 3 (.tmp 37) (.const (.int .i64 (-1099511627776))) 3⟩,
        ⟨some 39, .none, true, 4, .pick (.tmp 36) (.const (.bool true)) (.tmp 38)⟩])
    (.keep [2, 3, 9, 39]
    (.cond (.tmp 39)
      (.seq
        (.region [⟨some 8, .none, true, 4, .assign (.const (.bool true))⟩])
      .ret)
      .skip)))
  (.seq
    (.region [⟨some 40, .none, true, 23, .move (.tmp 9)⟩,
      ⟨some 41, .none, true, 23, .call { callee := .value (.func 16), args := #[.tmp 40, .const (.int .i64 1)], argTypes := #[23, 3] }⟩,
      ⟨some 11, .none, true, 23, .assign (.tmp 41)⟩])
  (.keep [2, 3, 9, 11]
  (.seq
    (.region [⟨some 43, .none, true, 23, .move (.tmp 9)⟩,
      ⟨some 44, .none, true, 24, .call { callee := .value (.func 17), args := #[.tmp 43, .const (.complex .f64 0 4607182418800017408)], argTypes := #[23, 23] }⟩,
      ⟨some 42, .none, true, 24, .move (.tmp 44)⟩,
      ⟨some 45, .none, true, 23, .extract (.tmp 42) 0⟩,
      ⟨some 46, .none, true, 4, .extract (.tmp 42) 1⟩,
      ⟨some 12, .none, true, 23, .assign (.tmp 45)⟩,
      ⟨some 13, .none, true, 4, .assign (.tmp 46)⟩])
  (.keep [2, 3, 9, 11, 12, 13]
  (.seq
    (.region [⟨some 47, .none, true, 23, .move (.tmp 9)⟩,
      ⟨some 48, .none, true, 23, .call { callee := .value (.func 16), args := #[.tmp 47, .const (.int .i64 4)], argTypes := #[23, 3] }⟩,
      ⟨some 49, .none, true, 23, .move (.tmp 9)⟩,
      ⟨some 50, .none, true, 4, .call { callee := .value (.func 18), args := #[.tmp 48, .tmp 49], argTypes := #[23, 23] }⟩,
      ⟨some 51, .none, true, 4, .move (.tmp 50)⟩,
      ⟨some 52, .some 51 true, true, 23, .move (.tmp 9)⟩,
      ⟨some 53, .some 51 true, true, 3, .move (.tmp 2)⟩,
      ⟨some 54, .some 51 true, true, 23, .call { callee := .value (.func 16), args := #[.tmp 52, .tmp 53], argTypes := #[23, 3] }⟩,
      ⟨some 55, .some 51 true, true, 3, .move (.tmp 3)⟩,
      ⟨some 56, .some 51 true, true, 23, .call { callee := .value (.func 16), args := #[.tmp 54, .tmp 55], argTypes := #[23, 3] }⟩,
      ⟨some 57, .some 51 true, true, 23, .move (.tmp 9)⟩,
      ⟨some 58, .some 51 true, true, 3, .move (.tmp 2)⟩,
      ⟨some 59, .some 51 true, true, 3, .move (.tmp 3)⟩,
      ⟨some 60, .some 51 true, true, 3, .binOp .add 3 (.tmp 58) (.tmp 59) 3⟩,
      ⟨some 61, .some 51 true, true, 23, .call { callee := .value (.func 16), args := #[.tmp 57, .tmp 60], argTypes := #[23, 3] }⟩,
      ⟨some 62, .some 51 true, true, 4, .call { callee := .value (.func 18), args := #[.tmp 56, .tmp 61], argTypes := #[23, 23] }⟩,
      ⟨some 63, .none, true, 4, .pick (.tmp 51) (.tmp 62) (.const (.bool false))⟩,
      ⟨some 64, .none, true, 4, .move (.tmp 63)⟩,
      ⟨some 65, .some 64 true, true, 4, .move (.tmp 13)⟩,
      ⟨some 66, .some 64 true, true, 4, .unOp .not 4 (.tmp 65)⟩,
      ⟨some 67, .some 64 true, true, 4, .move (.tmp 66)⟩,
      ⟨some 68, .some 67 false, true, 23, .move (.tmp 11)⟩,
      ⟨some 69, .some 67 false, true, 23, .move (.tmp 12)⟩,
      ⟨some 70, .some 67 false, true, 4, .binOp .eql 23 (.tmp 68) (.tmp 69) 23⟩,
      ⟨some 71, .some 64 true, true, 4, .pick (.tmp 67) (.const (.bool true)) (.tmp 70)⟩,
      ⟨some 72, .none, true, 4, .pick (.tmp 64) (.tmp 71) (.const (.bool false))⟩,
      ⟨some 73, .none, true, 4, .move (.tmp 72)⟩,
      ⟨some 74, .some 73 true, true, 23, .move (.tmp 11)⟩,
      ⟨some 75, .some 73 true, true, 4, .call { callee := .value (.func 19), args := #[.tmp 74], argTypes := #[23] }⟩,
      ⟨some 76, .none, true, 4, .pick (.tmp 73) (.tmp 75) (.const (.bool false))⟩,
      ⟨some 8, .none, true, 4, .assign (.tmp 76)⟩])
  .ret)))))))))))
theorem t_reevelaw1_GaussTurns : FnT Try.prog f_reevelaw1_GaussTurns rc_reevelaw1_GaussTurns [.tmp 8] 4 := ⟨⟨[], Try.f3, _, Try.func3, rfl, by kernel_rfl, by kernel_rfl, by kernel_rfl, rfl, by decide⟩, by kernel_rfl⟩
/-- reeve/reevelaw1.GaussSpins -/
abbrev f_reevelaw1_GaussSpins : FuncId := 4
def rc_reevelaw1_GaussSpins : RCode :=
  (.seq
    (.region [⟨some 8, .none, true, 4, .assign (.const (.bool false))⟩])
  (.keep [0, 1, 2, 3]
  (.seq
    (.seq
      (.region [⟨some 11, .none, true, 4, .call { callee := .value (.func 14), args := #[], argTypes := #[] }⟩,
        ⟨some 12, .none, true, 4, .unOp .not 4 (.tmp 11)⟩])
    (.keep [0, 1, 2, 3, 12]
    (.cond (.tmp 12)
      (.seq
        (.region [⟨some 8, .none, true, 4, .assign (.const (.bool false))⟩])
      .ret)
      .skip)))
  (.seq
    (.seq
      (.region [⟨some 13, .none, true, 31, .move (.tmp 0)⟩,
        ⟨some 14, .none, true, 3, .call { callee := .builtin .len, args := #[.tmp 13], argTypes := #[31] }⟩,
        ⟨some 15, .none, true, 4, .binOp .gtr 3 (.tmp 14) (.const (.int .i64 100)) 3⟩,
        ⟨some 16, .none, true, 4, .move (.tmp 15)⟩,
        ⟨some 17, .some 16 false, true, 3, .move (.tmp 1)⟩,
        ⟨some 18, .some 16 false, true, 4, .binOp .lss 3 (.tmp 17) (.const (.int .i64 0)) 3⟩,
        ⟨some 19, .none, true, 4, .pick (.tmp 16) (.const (.bool true)) (.tmp 18)⟩,
        ⟨some 20, .none, true, 4, .move (.tmp 19)⟩,
        ⟨some 21, .some 20 false, true, 3, .move (.tmp 1)⟩,
        ⟨some 22, .some 20 false, true, 31, .move (.tmp 0)⟩,
        ⟨some 23, .some 20 false, true, 3, .call { callee := .builtin .len, args := #[.tmp 22], argTypes := #[31] }⟩,
        ⟨some 24, .some 20 false, true, 4, .binOp .geq 3 (.tmp 21) (.tmp 23) 3⟩,
        ⟨some 25, .none, true, 4, .pick (.tmp 20) (.const (.bool true)) (.tmp 24)⟩,
        ⟨some 26, .none, true, 4, .move (.tmp 25)⟩,
        ⟨some 27, .some 26 false, true, 3, .move (.tmp 2)⟩,
        ⟨some 28, .some 26 false, true, 4, .binOp .lss 3 (.tmp 27) (.const (.int .i64 0)) 3⟩,
        ⟨some 29, .none, true, 4, .pick (.tmp 26) (.const (.bool true)) (.tmp 28)⟩,
        ⟨some 30, .none, true, 4, .move (.tmp 29)⟩,
        ⟨some 31, .some 30 false, true, 3, .move (.tmp 2)⟩,
        ⟨some 32, .some 30 false, true, 4, .binOp .gtr 3 (.tmp 31) (.const (.int .i64 3)) 3⟩,
        ⟨some 33, .none, true, 4, .pick (.tmp 30) (.const (.bool true)) (.tmp 32)⟩])
    (.keep [0, 1, 2, 3, 33]
    (.cond (.tmp 33)
      (.seq
        (.region [⟨some 8, .none, true, 4, .assign (.const (.bool true))⟩])
      .ret)
      .skip)))
  (.seq
    (.region [⟨some 34, .none, true, 31, .buildSlice 31 0 #[]⟩,
      ⟨some 35, .none, true, 31, .move (.tmp 0)⟩,
      ⟨some 36, .none, true, 31, .call { callee := .builtin .append, args := #[.tmp 34, .tmp 35], argTypes := #[31, 31] }⟩,
      ⟨some 9, .none, true, 31, .assign (.tmp 36)⟩])
  (.keep [0, 1, 2, 3, 9]
  (.seq
    (.region [⟨some 37, .none, true, 3, .move (.tmp 2)⟩,
      ⟨some 38, .none, true, 3, .binOp .mul 3 (.const (.int .i64 16)) (.tmp 37) 3⟩,
      ⟨some 39, .none, true, 33, .convert 3 33 (.tmp 38)⟩,
      ⟨some 10, .none, true, 33, .assign (.tmp 39)⟩])
  (.keep [0, 1, 3, 9, 10]
  (.seq
    (.region [⟨some 40, .none, true, 31, .move (.tmp 9)⟩,
      ⟨some 41, .none, true, 3, .move (.tmp 1)⟩,
      ⟨some 42, .none, true, 31, .move (.tmp 9)⟩,
      ⟨some 43, .none, true, 3, .move (.tmp 1)⟩,
      ⟨some 44, .none, true, 0, .indexAddr 31 (.tmp 42) (.tmp 43)⟩,
      ⟨some 45, .none, true, 34, .load 34 (.tmp 44)⟩,
      ⟨some 46, .none, true, 33, .move (.tmp 10)⟩,
      ⟨some 47, .none, true, 34, .binOp .shl 34 (.const (.int .u64 65535)) (.tmp 46) 33⟩,
      ⟨some 48, .none, true, 34, .binOp .andNot 34 (.tmp 45) (.tmp 47) 34⟩,
      ⟨some 49, .none, true, 32, .move (.tmp 3)⟩,
      ⟨some 50, .none, true, 34, .convert 32 34 (.tmp 49)⟩,
      ⟨some 51, .none, true, 33, .move (.tmp 10)⟩,
      ⟨some 52, .none, true, 34, .binOp .shl 34 (.tmp 50) (.tmp 51) 33⟩,
      ⟨some 53, .none, true, 34, .binOp .or 34 (.tmp 48) (.tmp 52) 34⟩,
      ⟨some 54, .none, true, 0, .indexAddr 31 (.tmp 40) (.tmp 41)⟩,
      ⟨none, .none, true, 0, .store 34 (.tmp 54) (.tmp 53)⟩])
  (.keep [0, 1, 9]
  (.seq
    (.region [⟨some 55, .none, false, 31, .move (.tmp 0)⟩,
      ⟨some 56, .none, false, 23, .call { callee := .value (.func 20), args := #[.tmp 55], argTypes := #[31] }⟩,
      ⟨some 57, .none, false, 31, .move (.tmp 9)⟩,
      ⟨some 58, .none, false, 23, .call { callee := .value (.func 20), args := #[.tmp 57], argTypes := #[31] }⟩,
      ⟨some 59, .none, false, 4, .binOp .eql 23 (.tmp 56) (.tmp 58) 23⟩,
      ⟨some 60, .none, false, 31, .move (.tmp 0)⟩,
      ⟨some 61, .none, false, 3, .move (.tmp 1)⟩,
      ⟨some 62, .none, false, 0, .indexAddr 31 (.tmp 60) (.tmp 61)⟩,
      ⟨some 63, .none, false, 34, .load 34 (.tmp 62)⟩,
      ⟨some 64, .none, false, 31, .move (.tmp 9)⟩,
      ⟨some 65, .none, false, 3, .move (.tmp 1)⟩,
      ⟨some 66, .none, false, 0, .indexAddr 31 (.tmp 64) (.tmp 65)⟩,
      ⟨some 67, .none, false, 34, .load 34 (.tmp 66)⟩,
      ⟨some 68, .none, false, 4, .binOp .eql 34 (.tmp 63) (.tmp 67) 34⟩,
      ⟨some 69, .none, true, 4, .binOp .eql 4 (.tmp 59) (.tmp 68) 4⟩,
      ⟨some 8, .none, true, 4, .assign (.tmp 69)⟩])
  .ret)))))))))))
theorem t_reevelaw1_GaussSpins : FnT Try.prog f_reevelaw1_GaussSpins rc_reevelaw1_GaussSpins [.tmp 8] 4 := ⟨⟨[], Try.f4, _, Try.func4, rfl, by kernel_rfl, by kernel_rfl, by kernel_rfl, rfl, by decide⟩, by kernel_rfl⟩
/-- reeve/reevelaw1.GaussLong -/
abbrev f_reevelaw1_GaussLong : FuncId := 5
def rc_reevelaw1_GaussLong : RCode :=
  (.seq
    (.region [⟨some 4, .none, true, 4, .assign (.const (.bool false))⟩])
  (.keep [0, 1]
  (.seq
    (.seq
      (.region [⟨some 14, .none, true, 4, .call { callee := .value (.func 14), args := #[], argTypes := #[] }⟩,
        ⟨some 15, .none, true, 4, .unOp .not 4 (.tmp 14)⟩])
    (.keep [0, 1, 15]
    (.cond (.tmp 15)
      (.seq
        (.region [⟨some 4, .none, true, 4, .assign (.const (.bool false))⟩])
      .ret)
      .skip)))
  (.seq
    (.seq
      (.region [⟨some 16, .none, true, 31, .move (.tmp 0)⟩,
        ⟨some 17, .none, true, 3, .call { callee := .builtin .len, args := #[.tmp 16], argTypes := #[31] }⟩,
        ⟨some 18, .none, true, 4, .binOp .gtr 3 (.tmp 17) (.const (.int .i64 60)) 3⟩,
        ⟨some 19, .none, true, 4, .move (.tmp 18)⟩,
        ⟨some 20, .some 19 false, true, 31, .move (.tmp 1)⟩,
        ⟨some 21, .some 19 false, true, 3, .call { callee := .builtin .len, args := #[.tmp 20], argTypes := #[31] }⟩,
        ⟨some 22, .some 19 false, true, 4, .binOp .gtr 3 (.tmp 21) (.const (.int .i64 60)) 3⟩,
        ⟨some 23, .none, true, 4, .pick (.tmp 19) (.const (.bool true)) (.tmp 22)⟩])
    (.keep [0, 1, 23]
    (.cond (.tmp 23)
      (.seq
        (.region [⟨some 4, .none, true, 4, .assign (.const (.bool true))⟩])
      .ret)
      .skip)))
  (.seq
    (.region [⟨some 25, .none, true, 31, .move (.tmp 0)⟩,
      ⟨some 26, .none, true, 23, .call { callee := .value (.func 20), args := #[.tmp 25], argTypes := #[31] }⟩,
      ⟨some 27, .none, true, 31, .move (.tmp 1)⟩,
      ⟨some 28, .none, true, 3, .call { callee := .builtin .len, args := #[.tmp 27], argTypes := #[31] }⟩,
      ⟨some 29, .none, true, 23, .call { callee := .value (.func 16), args := #[.tmp 26, .tmp 28], argTypes := #[23, 3] }⟩,
      ⟨some 30, .none, true, 37, .call { callee := .value (.func 21), args := #[.tmp 29], argTypes := #[23] }⟩,
      ⟨some 24, .none, true, 37, .move (.tmp 30)⟩,
      ⟨some 31, .none, true, 2, .extract (.tmp 24) 0⟩,
      ⟨some 32, .none, true, 2, .extract (.tmp 24) 1⟩,
      ⟨some 33, .none, true, 4, .extract (.tmp 24) 2⟩,
      ⟨some 5, .none, true, 2, .assign (.tmp 31)⟩,
      ⟨some 6, .none, true, 2, .assign (.tmp 32)⟩,
      ⟨some 7, .none, true, 4, .assign (.tmp 33)⟩])
  (.keep [0, 1, 5, 6, 7]
  (.seq
    (.region [⟨some 35, .none, true, 31, .move (.tmp 1)⟩,
      ⟨some 36, .none, true, 23, .call { callee := .value (.func 20), args := #[.tmp 35], argTypes := #[31] }⟩,
      ⟨some 37, .none, true, 37, .call { callee := .value (.func 21), args := #[.tmp 36], argTypes := #[23] }⟩,
      ⟨some 34, .none, true, 37, .move (.tmp 37)⟩,
      ⟨some 38, .none, true, 2, .extract (.tmp 34) 0⟩,
      ⟨some 39, .none, true, 2, .extract (.tmp 34) 1⟩,
      ⟨some 40, .none, true, 4, .extract (.tmp 34) 2⟩,
      ⟨some 8, .none, true, 2, .assign (.tmp 38)⟩,
      ⟨some 9, .none, true, 2, .assign (.tmp 39)⟩,
      ⟨some 10, .none, true, 4, .assign (.tmp 40)⟩])
  (.keep [0, 1, 5, 6, 7, 8, 9, 10]
  (.seq
    (.region [⟨some 42, .none, true, 31, .buildSlice 31 0 #[]⟩,
      ⟨some 43, .none, true, 31, .move (.tmp 0)⟩,
      ⟨some 44, .none, true, 31, .call { callee := .builtin .append, args := #[.tmp 42, .tmp 43], argTypes := #[31, 31] }⟩,
      ⟨some 45, .none, true, 31, .move (.tmp 1)⟩,
      ⟨some 46, .none, true, 31, .call { callee := .builtin .append, args := #[.tmp 44, .tmp 45], argTypes := #[31, 31] }⟩,
      ⟨some 47, .none, true, 23, .call { callee := .value (.func 20), args := #[.tmp 46], argTypes := #[31] }⟩,
      ⟨some 48, .none, true, 37, .call { callee := .value (.func 21), args := #[.tmp 47], argTypes := #[23] }⟩,
      ⟨some 41, .none, true, 37, .move (.tmp 48)⟩,
      ⟨some 49, .none, true, 2, .extract (.tmp 41) 0⟩,
      ⟨some 50, .none, true, 2, .extract (.tmp 41) 1⟩,
      ⟨some 51, .none, true, 4, .extract (.tmp 41) 2⟩,
      ⟨some 11, .none, true, 2, .assign (.tmp 49)⟩,
      ⟨some 12, .none, true, 2, .assign (.tmp 50)⟩,
      ⟨some 13, .none, true, 4, .assign (.tmp 51)⟩])
  (.keep [5, 6, 7, 8, 9, 10, 11, 12, 13]
  (.seq
    (.region [⟨some 52, .none, true, 4, .move (.tmp 7)⟩,
      ⟨some 53, .none, true, 4, .move (.tmp 52)⟩,
      ⟨some 54, .some 53 true, true, 4, .move (.tmp 10)⟩,
      ⟨some 55, .none, true, 4, .pick (.tmp 53) (.tmp 54) (.const (.bool false))⟩,
      ⟨some 56, .none, true, 4, .move (.tmp 55)⟩,
      ⟨some 57, .some 56 true, true, 4, .move (.tmp 13)⟩,
      ⟨some 58, .none, true, 4, .pick (.tmp 56) (.tmp 57) (.const (.bool false))⟩,
      ⟨some 59, .none, true, 4, .move (.tmp 58)⟩,
      ⟨some 60, .some 59 true, true, 2, .move (.tmp 5)⟩,
      ⟨some 61, .some 59 true, true, 2, .move (.tmp 8)⟩,
      ⟨some 62, .some 59 true, true, 2, .binOp .add 2 (.tmp 60) (.tmp 61) 2⟩,
      ⟨some 63, .some 59 true, true, 2, .call { callee := .value (.func 22), args := #[.tmp 62], argTypes := #[2] }⟩,
      ⟨some 64, .some 59 true, true, 2, .move (.tmp 11)⟩,
      ⟨some 65, .some 59 true, true, 4, .binOp .eql 2 (.tmp 63) (.tmp 64) 2⟩,
      ⟨some 66, .none, true, 4, .pick (.tmp 59) (.tmp 65) (.const (.bool false))⟩,
      ⟨some 67, .none, true, 4, .move (.tmp 66)⟩,
      ⟨some 68, .some 67 true, true, 2, .move (.tmp 6)⟩,
      ⟨some 69, .some 67 true, true, 2, .move (.tmp 9)⟩,
      ⟨some 70, .some 67 true, true, 2, .binOp .add 2 (.tmp 68) (.tmp 69) 2⟩,
      ⟨some 71, .some 67 true, true, 2, .call { callee := .value (.func 22), args := #[.tmp 70], argTypes := #[2] }⟩,
      ⟨some 72, .some 67 true, true, 2, .move (.tmp 12)⟩,
      ⟨some 73, .some 67 true, true, 4, .binOp .eql 2 (.tmp 71) (.tmp 72) 2⟩,
      ⟨some 74, .none, true, 4, .pick (.tmp 67) (.tmp 73) (.const (.bool false))⟩,
      ⟨some 4, .none, true, 4, .assign (.tmp 74)⟩])
  .ret)))))))))))
theorem t_reevelaw1_GaussLong : FnT Try.prog f_reevelaw1_GaussLong rc_reevelaw1_GaussLong [.tmp 4] 2 := ⟨⟨[], Try.f5, _, Try.func5, rfl, by kernel_rfl, by kernel_rfl, by kernel_rfl, rfl, by decide⟩, by kernel_rfl⟩
/-- reeve/reevelaw1.GaussWords -/
abbrev f_reevelaw1_GaussWords : FuncId := 6
def rc_reevelaw1_GaussWords : RCode :=
  (.seq
    (.region [⟨some 4, .none, true, 4, .assign (.const (.bool false))⟩])
  (.keep [0, 1]
  (.seq
    (.seq
      (.region [⟨some 12, .none, true, 4, .call { callee := .value (.func 14), args := #[], argTypes := #[] }⟩,
        ⟨some 13, .none, true, 4, .unOp .not 4 (.tmp 12)⟩])
    (.keep [0, 1, 13]
    (.cond (.tmp 13)
      (.seq
        (.region [⟨some 4, .none, true, 4, .assign (.const (.bool false))⟩])
      .ret)
      .skip)))
  (.seq
    (.region [⟨some 15, .none, true, 41, .move (.tmp 0)⟩,
      ⟨some 16, .none, true, 2, .convert 41 2 (.tmp 15)⟩,
      ⟨some 17, .none, true, 41, .move (.tmp 1)⟩,
      ⟨some 18, .none, true, 2, .convert 41 2 (.tmp 17)⟩,
      ⟨some 19, .none, true, 24, .call { callee := .value (.func 15), args := #[.tmp 16, .tmp 18], argTypes := #[2, 2] }⟩,
      ⟨some 14, .none, true, 24, .move (.tmp 19)⟩,
      ⟨some 20, .none, true, 23, .extract (.tmp 14) 0⟩,
      ⟨some 21, .none, true, 4, .extract (.tmp 14) 1⟩,
      ⟨some 5, .none, true, 23, .assign (.tmp 20)⟩,
      ⟨some 6, .none, true, 4, .assign (.tmp 21)⟩])
  (.keep [0, 1, 5, 6]
  (.seq
    (.region [⟨some 23, .none, true, 23, .move (.tmp 5)⟩,
      ⟨some 24, .none, true, 42, .call { callee := .value (.func 23), args := #[.tmp 23], argTypes := #[23] }⟩,
      ⟨some 22, .none, true, 42, .move (.tmp 24)⟩,
      ⟨some 25, .none, true, 34, .extract (.tmp 22) 0⟩,
      ⟨some 26, .none, true, 4, .extract (.tmp 22) 1⟩,
      ⟨some 7, .none, true, 34, .assign (.tmp 25)⟩,
      ⟨some 8, .none, true, 4, .assign (.tmp 26)⟩])
  (.keep [0, 1, 5, 6, 7, 8]
  (.seq
    (.region [⟨some 28, .none, true, 23, .move (.tmp 5)⟩,
      ⟨some 29, .none, true, 37, .call { callee := .value (.func 21), args := #[.tmp 28], argTypes := #[23] }⟩,
      ⟨some 27, .none, true, 37, .move (.tmp 29)⟩,
      ⟨some 30, .none, true, 2, .extract (.tmp 27) 0⟩,
      ⟨some 31, .none, true, 2, .extract (.tmp 27) 1⟩,
      ⟨some 32, .none, true, 4, .extract (.tmp 27) 2⟩,
      ⟨some 9, .none, true, 2, .assign (.tmp 30)⟩,
      ⟨some 10, .none, true, 2, .assign (.tmp 31)⟩,
      ⟨some 11, .none, true, 4, .assign (.tmp 32)⟩])
  (.keep [0, 1, 6, 7, 8, 9, 10, 11]
  (.seq
    (.region [⟨some 33, .none, true, 4, .move (.tmp 6)⟩,
      ⟨some 34, .none, true, 4, .move (.tmp 33)⟩,
      ⟨some 35, .some 34 true, true, 4, .move (.tmp 8)⟩,
      ⟨some 36, .none, true, 4, .pick (.tmp 34) (.tmp 35) (.const (.bool false))⟩,
      ⟨some 37, .none, true, 4, .move (.tmp 36)⟩,
      ⟨some 38, .some 37 true, true, 4, .move (.tmp 11)⟩,
      ⟨some 39, .none, true, 4, .pick (.tmp 37) (.tmp 38) (.const (.bool false))⟩,
      ⟨some 40, .none, true, 4, .move (.tmp 39)⟩,
      ⟨some 41, .some 40 true, true, 34, .move (.tmp 7)⟩,
      ⟨some 42, .some 40 true, true, 41, .move (.tmp 1)⟩,
      ⟨some 43, .some 40 true, true, 34, .convert 41 34 (.tmp 42)⟩,
      ⟨some 44, .some 40 true, true, 34, .binOp .shl 34 (.tmp 43) (.const (.int .u64 32)) 33⟩,
      ⟨some 45, .some 40 true, true, 41, .move (.tmp 0)⟩,
      ⟨some 46, .some 40 true, true, 34, .convert 41 34 (.tmp 45)⟩,
      ⟨some 47, .some 40 true, true, 34, .binOp .or 34 (.tmp 44) (.tmp 46) 34⟩,
      ⟨some 48, .some 40 true, true, 4, .binOp .eql 34 (.tmp 41) (.tmp 47) 34⟩,
      ⟨some 49, .none, true, 4, .pick (.tmp 40) (.tmp 48) (.const (.bool false))⟩,
      ⟨some 50, .none, true, 4, .move (.tmp 49)⟩,
      ⟨some 51, .some 50 true, true, 2, .move (.tmp 9)⟩,
      ⟨some 52, .some 50 true, true, 41, .move (.tmp 0)⟩,
      ⟨some 53, .some 50 true, true, 2, .convert 41 2 (.tmp 52)⟩,
      ⟨some 54, .some 50 true, true, 4, .binOp .eql 2 (.tmp 51) (.tmp 53) 2⟩,
      ⟨some 55, .none, true, 4, .pick (.tmp 50) (.tmp 54) (.const (.bool false))⟩,
      ⟨some 56, .none, true, 4, .move (.tmp 55)⟩,
      ⟨some 57, .some 56 true, true, 2, .move (.tmp 10)⟩,
      ⟨some 58, .some 56 true, true, 41, .move (.tmp 1)⟩,
      ⟨some 59, .some 56 true, true, 2, .convert 41 2 (.tmp 58)⟩,
      ⟨some 60, .some 56 true, true, 4, .binOp .eql 2 (.tmp 57) (.tmp 59) 2⟩,
      ⟨some 61, .none, true, 4, .pick (.tmp 56) (.tmp 60) (.const (.bool false))⟩,
      ⟨some 4, .none, true, 4, .assign (.tmp 61)⟩])
  .ret))))))))))
theorem t_reevelaw1_GaussWords : FnT Try.prog f_reevelaw1_GaussWords rc_reevelaw1_GaussWords [.tmp 4] 2 := ⟨⟨[], Try.f6, _, Try.func6, rfl, by kernel_rfl, by kernel_rfl, by kernel_rfl, rfl, by decide⟩, by kernel_rfl⟩
/-- reeve/reevelaw1.GaussRing -/
abbrev f_reevelaw1_GaussRing : FuncId := 7
def rc_reevelaw1_GaussRing : RCode :=
  (.seq
    (.region [⟨some 12, .none, true, 4, .assign (.const (.bool false))⟩])
  (.keep [0, 1, 2, 3, 4, 5]
  (.seq
    (.seq
      (.region [⟨some 37, .none, true, 4, .call { callee := .value (.func 14), args := #[], argTypes := #[] }⟩,
        ⟨some 38, .none, true, 4, .unOp .not 4 (.tmp 37)⟩])
    (.keep [0, 1, 2, 3, 4, 5, 38]
    (.cond (.tmp 38)
      (.seq
        (.region [⟨some 12, .none, true, 4, .assign (.const (.bool false))⟩])
      .ret)
      .skip)))
  (.seq
    (.region [⟨some 40, .none, true, 21, .move (.tmp 0)⟩,
      ⟨some 41, .none, true, 2, .convert 21 2 (.tmp 40)⟩,
      ⟨some 42, .none, true, 2, .binOp .quo 2 (.tmp 41) (.const (.int .i64 4096)) 2⟩,
      ⟨some 43, .none, true, 21, .move (.tmp 1)⟩,
      ⟨some 44, .none, true, 2, .convert 21 2 (.tmp 43)⟩,
      ⟨some 45, .none, true, 2, .binOp .quo 2 (.tmp 44) (.const (.int .i64 4096)) 2⟩,
      ⟨some 46, .none, true, 24, .call { callee := .value (.func 15), args := #[.tmp 42, .tmp 45], argTypes := #[2, 2] }⟩,
      ⟨some 39, .none, true, 24, .move (.tmp 46)⟩,
      ⟨some 47, .none, true, 23, .extract (.tmp 39) 0⟩,
      ⟨some 48, .none, true, 4, .extract (.tmp 39) 1⟩,
      ⟨some 13, .none, true, 23, .assign (.tmp 47)⟩,
      ⟨some 14, .none, true, 4, .assign (.tmp 48)⟩])
  (.keep [2, 3, 4, 5, 13]
  (.seq
    (.region [⟨some 50, .none, true, 45, .move (.tmp 2)⟩,
      ⟨some 51, .none, true, 2, .convert 45 2 (.tmp 50)⟩,
      ⟨some 52, .none, true, 2, .binOp .quo 2 (.tmp 51) (.const (.int .i64 256)) 2⟩,
      ⟨some 53, .none, true, 45, .move (.tmp 3)⟩,
      ⟨some 54, .none, true, 2, .convert 45 2 (.tmp 53)⟩,
      ⟨some 55, .none, true, 2, .binOp .quo 2 (.tmp 54) (.const (.int .i64 256)) 2⟩,
      ⟨some 56, .none, true, 24, .call { callee := .value (.func 15), args := #[.tmp 52, .tmp 55], argTypes := #[2, 2] }⟩,
      ⟨some 49, .none, true, 24, .move (.tmp 56)⟩,
      ⟨some 57, .none, true, 23, .extract (.tmp 49) 0⟩,
      ⟨some 58, .none, true, 4, .extract (.tmp 49) 1⟩,
      ⟨some 15, .none, true, 23, .assign (.tmp 57)⟩,
      ⟨some 16, .none, true, 4, .assign (.tmp 58)⟩])
  (.keep [4, 5, 13, 15]
  (.seq
    (.region [⟨some 60, .none, true, 45, .move (.tmp 4)⟩,
      ⟨some 61, .none, true, 2, .convert 45 2 (.tmp 60)⟩,
      ⟨some 62, .none, true, 2, .binOp .quo 2 (.tmp 61) (.const (.int .i64 256)) 2⟩,
      ⟨some 63, .none, true, 45, .move (.tmp 5)⟩,
      ⟨some 64, .none, true, 2, .convert 45 2 (.tmp 63)⟩,
      ⟨some 65, .none, true, 2, .binOp .quo 2 (.tmp 64) (.const (.int .i64 256)) 2⟩,
      ⟨some 66, .none, true, 24, .call { callee := .value (.func 15), args := #[.tmp 62, .tmp 65], argTypes := #[2, 2] }⟩,
      ⟨some 59, .none, true, 24, .move (.tmp 66)⟩,
      ⟨some 67, .none, true, 23, .extract (.tmp 59) 0⟩,
      ⟨some 68, .none, true, 4, .extract (.tmp 59) 1⟩,
      ⟨some 17, .none, true, 23, .assign (.tmp 67)⟩,
      ⟨some 18, .none, true, 4, .assign (.tmp 68)⟩])
  (.keep [13, 15, 17]
  (.seq
    (.region [⟨some 70, .none, true, 23, .move (.tmp 13)⟩,
      ⟨some 71, .none, true, 23, .move (.tmp 15)⟩,
      ⟨some 72, .none, true, 24, .call { callee := .value (.func 17), args := #[.tmp 70, .tmp 71], argTypes := #[23, 23] }⟩,
      ⟨some 69, .none, true, 24, .move (.tmp 72)⟩,
      ⟨some 73, .none, true, 23, .extract (.tmp 69) 0⟩,
      ⟨some 74, .none, true, 4, .extract (.tmp 69) 1⟩,
      ⟨some 19, .none, true, 23, .assign (.tmp 73)⟩,
      ⟨some 20, .none, true, 4, .assign (.tmp 74)⟩])
  (.keep [13, 15, 17, 19, 20]
  (.seq
    (.region [⟨some 76, .none, true, 23, .move (.tmp 15)⟩,
      ⟨some 77, .none, true, 23, .move (.tmp 13)⟩,
      ⟨some 78, .none, true, 24, .call { callee := .value (.func 17), args := #[.tmp 76, .tmp 77], argTypes := #[23, 23] }⟩,
      ⟨some 75, .none, true, 24, .move (.tmp 78)⟩,
      ⟨some 79, .none, true, 23, .extract (.tmp 75) 0⟩,
      ⟨some 80, .none, true, 4, .extract (.tmp 75) 1⟩,
      ⟨some 21, .none, true, 23, .assign (.tmp 79)⟩,
      ⟨some 22, .none, true, 4, .assign (.tmp 80)⟩])
  (.keep [13, 15, 17, 19, 20, 21, 22]
  (.seq
    (.region [⟨some 82, .none, true, 23, .move (.tmp 15)⟩,
      ⟨some 83, .none, true, 23, .move (.tmp 17)⟩,
      ⟨some 84, .none, true, 24, .call { callee := .value (.func 17), args := #[.tmp 82, .tmp 83], argTypes := #[23, 23] }⟩,
      ⟨some 81, .none, true, 24, .move (.tmp 84)⟩,
      ⟨some 85, .none, true, 23, .extract (.tmp 81) 0⟩,
      ⟨some 86, .none, true, 4, .extract (.tmp 81) 1⟩,
      ⟨some 23, .none, true, 23, .assign (.tmp 85)⟩,
      ⟨some 24, .none, true, 4, .assign (.tmp 86)⟩])
  (.keep [13, 15, 17, 19, 20, 21, 22, 23, 24]
  (.seq
    (.region [⟨some 88, .none, true, 23, .move (.tmp 19)⟩,
      ⟨some 89, .none, true, 23, .move (.tmp 17)⟩,
      ⟨some 90, .none, true, 24, .call { callee := .value (.func 17), args := #[.tmp 88, .tmp 89], argTypes := #[23, 23] }⟩,
      ⟨some 87, .none, true, 24, .move (.tmp 90)⟩,
      ⟨some 91, .none, true, 23, .extract (.tmp 87) 0⟩,
      ⟨some 92, .none, true, 4, .extract (.tmp 87) 1⟩,
      ⟨some 25, .none, true, 23, .assign (.tmp 91)⟩,
      ⟨some 26, .none, true, 4, .assign (.tmp 92)⟩])
  (.keep [13, 15, 17, 19, 20, 21, 22, 23, 24, 25, 26]
  (.seq
    (.region [⟨some 94, .none, true, 23, .move (.tmp 13)⟩,
      ⟨some 95, .none, true, 23, .move (.tmp 23)⟩,
      ⟨some 96, .none, true, 24, .call { callee := .value (.func 17), args := #[.tmp 94, .tmp 95], argTypes := #[23, 23] }⟩,
      ⟨some 93, .none, true, 24, .move (.tmp 96)⟩,
      ⟨some 97, .none, true, 23, .extract (.tmp 93) 0⟩,
      ⟨some 98, .none, true, 4, .extract (.tmp 93) 1⟩,
      ⟨some 27, .none, true, 23, .assign (.tmp 97)⟩,
      ⟨some 28, .none, true, 4, .assign (.tmp 98)⟩])
  (.keep [13, 15, 17, 19, 20, 21, 22, 24, 25, 26, 27, 28]
  (.seq
    (.region [⟨some 100, .none, true, 23, .move (.tmp 15)⟩,
      ⟨some 101, .none, true, 23, .move (.tmp 17)⟩,
      ⟨some 102, .none, true, 24, .call { callee := .value (.func 24), args := #[.tmp 100, .tmp 101], argTypes := #[23, 23] }⟩,
      ⟨some 99, .none, true, 24, .move (.tmp 102)⟩,
      ⟨some 103, .none, true, 23, .extract (.tmp 99) 0⟩,
      ⟨some 104, .none, true, 4, .extract (.tmp 99) 1⟩,
      ⟨some 29, .none, true, 23, .assign (.tmp 103)⟩,
      ⟨some 30, .none, true, 4, .assign (.tmp 104)⟩])
  (.keep [13, 15, 17, 19, 20, 21, 22, 24, 25, 26, 27, 28, 29, 30]
  (.seq
    (.region [⟨some 106, .none, true, 23, .move (.tmp 13)⟩,
      ⟨some 107, .none, true, 23, .move (.tmp 29)⟩,
      ⟨some 108, .none, true, 24, .call { callee := .value (.func 17), args := #[.tmp 106, .tmp 107], argTypes := #[23, 23] }⟩,
      ⟨some 105, .none, true, 24, .move (.tmp 108)⟩,
      ⟨some 109, .none, true, 23, .extract (.tmp 105) 0⟩,
      ⟨some 110, .none, true, 4, .extract (.tmp 105) 1⟩,
      ⟨some 31, .none, true, 23, .assign (.tmp 109)⟩,
      ⟨some 32, .none, true, 4, .assign (.tmp 110)⟩])
  (.keep [13, 15, 17, 19, 20, 21, 22, 24, 25, 26, 27, 28, 30, 31, 32]
  (.seq
    (.region [⟨some 112, .none, true, 23, .move (.tmp 13)⟩,
      ⟨some 113, .none, true, 23, .move (.tmp 17)⟩,
      ⟨some 114, .none, true, 24, .call { callee := .value (.func 17), args := #[.tmp 112, .tmp 113], argTypes := #[23, 23] }⟩,
      ⟨some 111, .none, true, 24, .move (.tmp 114)⟩,
      ⟨some 115, .none, true, 23, .extract (.tmp 111) 0⟩,
      ⟨some 116, .none, true, 4, .extract (.tmp 111) 1⟩,
      ⟨some 33, .none, true, 23, .assign (.tmp 115)⟩,
      ⟨some 34, .none, true, 4, .assign (.tmp 116)⟩])
  (.keep [13, 15, 19, 20, 21, 22, 24, 25, 26, 27, 28, 30, 31, 32, 33, 34]
  (.seq
    (.region [⟨some 118, .none, true, 23, .move (.tmp 19)⟩,
      ⟨some 119, .none, true, 23, .move (.tmp 33)⟩,
      ⟨some 120, .none, true, 24, .call { callee := .value (.func 24), args := #[.tmp 118, .tmp 119], argTypes := #[23, 23] }⟩,
      ⟨some 117, .none, true, 24, .move (.tmp 120)⟩,
      ⟨some 121, .none, true, 23, .extract (.tmp 117) 0⟩,
      ⟨some 122, .none, true, 4, .extract (.tmp 117) 1⟩,
      ⟨some 35, .none, true, 23, .assign (.tmp 121)⟩,
      ⟨some 36, .none, true, 4, .assign (.tmp 122)⟩])
  (.keep [13, 15, 19, 20, 21, 22, 24, 25, 26, 27, 28, 30, 31, 32, 34, 35, 36]
  (.seq
    (.region [⟨some 123, .none, true, 4, .move (.tmp 20)⟩,
      ⟨some 124, .none, true, 4, .move (.tmp 123)⟩,
      ⟨some 125, .some 124 true, true, 4, .move (.tmp 22)⟩,
      ⟨some 126, .none, true, 4, .pick (.tmp 124) (.tmp 125) (.const (.bool false))⟩,
      ⟨some 127, .none, true, 4, .move (.tmp 126)⟩,
      ⟨some 128, .some 127 true, true, 4, .move (.tmp 24)⟩,
      ⟨some 129, .none, true, 4, .pick (.tmp 127) (.tmp 128) (.const (.bool false))⟩,
      ⟨some 130, .none, true, 4, .move (.tmp 129)⟩,
      ⟨some 131, .some 130 true, true, 4, .move (.tmp 26)⟩,
      ⟨some 132, .none, true, 4, .pick (.tmp 130) (.tmp 131) (.const (.bool false))⟩,
      ⟨some 133, .none, true, 4, .move (.tmp 132)⟩,
      ⟨some 134, .some 133 true, true, 4, .move (.tmp 28)⟩,
      ⟨some 135, .none, true, 4, .pick (.tmp 133) (.tmp 134) (.const (.bool false))⟩,
      ⟨some 136, .none, true, 4, .move (.tmp 135)⟩,
      ⟨some 137, .some 136 true, true, 4, .move (.tmp 30)⟩,
      ⟨some 138, .none, true, 4, .pick (.tmp 136) (.tmp 137) (.const (.bool false))⟩,
      ⟨some 139, .none, true, 4, .move (.tmp 138)⟩,
      ⟨some 140, .some 139 true, true, 4, .move (.tmp 32)⟩,
      ⟨some 141, .none, true, 4, .pick (.tmp 139) (.tmp 140) (.const (.bool false))⟩,
      ⟨some 142, .none, true, 4, .move (.tmp 141)⟩,
      ⟨some 143, .some 142 true, true, 4, .move (.tmp 34)⟩,
      ⟨some 144, .none, true, 4, .pick (.tmp 142) (.tmp 143) (.const (.bool false))⟩,
      ⟨some 145, .none, true, 4, .move (.tmp 144)⟩,
      ⟨some 146, .some 145 true, true, 4, .move (.tmp 36)⟩,
      ⟨some 147, .none, true, 4, .pick (.tmp 145) (.tmp 146) (.const (.bool false))⟩,
      ⟨some 148, .none, true, 4, .move (.tmp 147)⟩,
      ⟨some 149, .some 148 true, true, 23, .move (.tmp 19)⟩,
      ⟨some 150, .some 148 true, true, 23, .move (.tmp 21)⟩,
      ⟨some 151, .some 148 true, true, 4, .binOp .eql 23 (.tmp 149) (.tmp 150) 23⟩,
      ⟨some 152, .none, true, 4, .pick (.tmp 148) (.tmp 151) (.const (.bool false))⟩,
      ⟨some 153, .none, true, 4, .move (.tmp 152)⟩,
      ⟨some 154, .some 153 true, true, 23, .move (.tmp 25)⟩,
      ⟨some 155, .some 153 true, true, 23, .move (.tmp 27)⟩,
      ⟨some 156, .some 153 true, true, 4, .binOp .eql 23 (.tmp 154) (.tmp 155) 23⟩,
      ⟨some 157, .none, true, 4, .pick (.tmp 153) (.tmp 156) (.const (.bool false))⟩,
      ⟨some 158, .none, true, 4, .move (.tmp 157)⟩,
      ⟨some 159, .some 158 true, true, 23, .move (.tmp 31)⟩,
      ⟨some 160, .some 158 true, true, 23, .move (.tmp 35)⟩,
      ⟨some 161, .some 158 true, true, 4, .binOp .eql 23 (.tmp 159) (.tmp 160) 23⟩,
      ⟨some 162, .none, true, 4, .pick (.tmp 158) (.tmp 161) (.const (.bool false))⟩,
      ⟨some 163, .none, true, 4, .move (.tmp 162)⟩,
      ⟨some 164, .some 163 true, true, 23, .move (.tmp 19)⟩,
      ⟨some 165, .some 163 true, true, 2, .call { callee := .value (.func 25), args := #[.tmp 164], argTypes := #[23] }⟩,
      ⟨some 166, .some 163 true, true, 23, .move (.tmp 13)⟩,
      ⟨some 167, .some 163 true, true, 2, .call { callee := .value (.func 25), args := #[.tmp 166], argTypes := #[23] }⟩,
      ⟨some 168, .some 163 true, true, 23, .move (.tmp 15)⟩,
      ⟨some 169, .some 163 true, true, 2, .call { callee := .value (.func 25), args := #[.tmp 168], argTypes := #[23] }⟩,
      ⟨some 170, .some 163 true, true, 2, .binOp .mul 2 (.tmp 167) (.tmp 169) 2⟩,
      ⟨some 171, .some 163 true, true, 4, .binOp .eql 2 (.tmp 165) (.tmp 170) 2⟩,
      ⟨some 172, .none, true, 4, .pick (.tmp 163) (.tmp 171) (.const (.bool false))⟩,
      ⟨some 12, .none, true, 4, .assign (.tmp 172)⟩])
  .ret))))))))))))))))))))))))))))
theorem t_reevelaw1_GaussRing : FnT Try.prog f_reevelaw1_GaussRing rc_reevelaw1_GaussRing [.tmp 12] 6 := ⟨⟨[], Try.f7, _, Try.func7, rfl, by kernel_rfl, by kernel_rfl, by kernel_rfl, rfl, by decide⟩, by kernel_rfl⟩
/-- reeve/reevelaw1.GaussSays -/
abbrev f_reevelaw1_GaussSays : FuncId := 9
def rc_reevelaw1_GaussSays : RCode :=
  (.seq
    (.region [⟨some 16, .none, true, 4, .assign (.const (.bool false))⟩])
  (.keep [0, 1, 2, 3, 4, 5, 6, 7]
  (.seq
    (.seq
      (.region [⟨some 41, .none, true, 4, .call { callee := .value (.func 14), args := #[], argTypes := #[] }⟩,
        ⟨some 42, .none, true, 4, .unOp .not 4 (.tmp 41)⟩])
    (.keep [0, 1, 2, 3, 4, 5, 6, 7, 42]
    (.cond (.tmp 42)
      (.seq
        (.region [⟨some 16, .none, true, 4, .assign (.const (.bool false))⟩])
      .ret)
      .skip)))
  (.seq
    (.seq
      (.region [⟨some 43, .none, true, 31, .move (.tmp 7)⟩,
        ⟨some 44, .none, true, 3, .call { callee := .builtin .len, args := #[.tmp 43], argTypes := #[31] }⟩,
        ⟨some 45, .none, true, 4, .binOp .gtr 3 (.tmp 44) (.const (.int .i64 200)) 3⟩])
    (.keep [0, 1, 2, 3, 4, 5, 6, 7, 45]
    (.cond (.tmp 45)
      (.seq
        (.region [⟨some 16, .none, true, 4, .assign (.const (.bool true))⟩])
      .ret)
      .skip)))
  (.seq
    (.region [⟨some 46, .none, true, 48, .move (.tmp 0)⟩,
      ⟨some 47, .none, true, 48, .move (.tmp 1)⟩,
      ⟨some 48, .none, true, 23, .call { callee := .builtin .complex, args := #[.tmp 46, .tmp 47], argTypes := #[48, 48] }⟩,
      ⟨some 49, .none, true, 48, .move (.tmp 2)⟩,
      ⟨some 50, .none, true, 48, .move (.tmp 3)⟩,
      ⟨some 51, .none, true, 23, .call { callee := .builtin .complex, args := #[.tmp 49, .tmp 50], argTypes := #[48, 48] }⟩,
      ⟨some 17, .none, true, 23, .assign (.tmp 48)⟩,
      ⟨some 18, .none, true, 23, .assign (.tmp 51)⟩])
  (.keep [4, 5, 6, 7, 17, 18]
  (.seq
    (.region [⟨some 53, .none, true, 23, .move (.tmp 17)⟩,
      ⟨some 54, .none, true, 23, .move (.tmp 18)⟩,
      ⟨some 55, .none, true, 24, .call { callee := .value (.func 24), args := #[.tmp 53, .tmp 54], argTypes := #[23, 23] }⟩,
      ⟨some 52, .none, true, 24, .move (.tmp 55)⟩,
      ⟨some 56, .none, true, 23, .extract (.tmp 52) 0⟩,
      ⟨some 57, .none, true, 4, .extract (.tmp 52) 1⟩,
      ⟨some 19, .none, true, 23, .assign (.tmp 56)⟩,
      ⟨some 20, .none, true, 4, .assign (.tmp 57)⟩])
  (.keep [4, 5, 6, 7, 17, 18, 19, 20]
  (.seq
    (.region [⟨some 59, .none, true, 23, .move (.tmp 17)⟩,
      ⟨some 60, .none, true, 23, .move (.tmp 18)⟩,
      ⟨some 61, .none, true, 24, .call { callee := .value (.func 26), args := #[.tmp 59, .tmp 60], argTypes := #[23, 23] }⟩,
      ⟨some 58, .none, true, 24, .move (.tmp 61)⟩,
      ⟨some 62, .none, true, 23, .extract (.tmp 58) 0⟩,
      ⟨some 63, .none, true, 4, .extract (.tmp 58) 1⟩,
      ⟨some 21, .none, true, 23, .assign (.tmp 62)⟩,
      ⟨some 22, .none, true, 4, .assign (.tmp 63)⟩])
  (.keep [4, 5, 6, 7, 17, 18, 19, 20, 21, 22]
  (.seq
    (.region [⟨some 65, .none, true, 23, .move (.tmp 17)⟩,
      ⟨some 66, .none, true, 23, .move (.tmp 18)⟩,
      ⟨some 67, .none, true, 24, .call { callee := .value (.func 17), args := #[.tmp 65, .tmp 66], argTypes := #[23, 23] }⟩,
      ⟨some 64, .none, true, 24, .move (.tmp 67)⟩,
      ⟨some 68, .none, true, 23, .extract (.tmp 64) 0⟩,
      ⟨some 69, .none, true, 4, .extract (.tmp 64) 1⟩,
      ⟨some 23, .none, true, 23, .assign (.tmp 68)⟩,
      ⟨some 24, .none, true, 4, .assign (.tmp 69)⟩])
  (.keep [4, 5, 6, 7, 17, 18, 19, 20, 21, 22, 23, 24]
  (.seq
    (.region [⟨some 71, .none, true, 23, .move (.tmp 17)⟩,
      ⟨some 72, .none, true, 23, .move (.tmp 18)⟩,
      ⟨some 73, .none, true, 24, .call { callee := .value (.func 27), args := #[.tmp 71, .tmp 72], argTypes := #[23, 23] }⟩,
      ⟨some 70, .none, true, 24, .move (.tmp 73)⟩,
      ⟨some 74, .none, true, 23, .extract (.tmp 70) 0⟩,
      ⟨some 75, .none, true, 4, .extract (.tmp 70) 1⟩,
      ⟨some 25, .none, true, 23, .assign (.tmp 74)⟩,
      ⟨some 26, .none, true, 4, .assign (.tmp 75)⟩])
  (.keep [4, 5, 6, 7, 17, 19, 20, 21, 22, 23, 24, 25, 26]
  (.seq
    (.region [⟨some 77, .none, true, 2, .move (.tmp 4)⟩,
      ⟨some 78, .none, true, 2, .move (.tmp 5)⟩,
      ⟨some 79, .none, true, 24, .call { callee := .value (.func 15), args := #[.tmp 77, .tmp 78], argTypes := #[2, 2] }⟩,
      ⟨some 76, .none, true, 24, .move (.tmp 79)⟩,
      ⟨some 80, .none, true, 23, .extract (.tmp 76) 0⟩,
      ⟨some 81, .none, true, 4, .extract (.tmp 76) 1⟩,
      ⟨some 27, .none, true, 23, .assign (.tmp 80)⟩,
      ⟨some 28, .none, true, 4, .assign (.tmp 81)⟩])
  (.keep [4, 5, 6, 7, 17, 19, 20, 21, 22, 23, 24, 25, 26, 27, 28]
  (.seq
    (.region [⟨some 83, .none, true, 2, .move (.tmp 4)⟩,
      ⟨some 84, .none, true, 2, .move (.tmp 5)⟩,
      ⟨some 85, .none, true, 24, .call { callee := .value (.func 28), args := #[.tmp 83, .tmp 84], argTypes := #[2, 2] }⟩,
      ⟨some 82, .none, true, 24, .move (.tmp 85)⟩,
      ⟨some 86, .none, true, 23, .extract (.tmp 82) 0⟩,
      ⟨some 87, .none, true, 4, .extract (.tmp 82) 1⟩,
      ⟨some 29, .none, true, 23, .assign (.tmp 86)⟩,
      ⟨some 30, .none, true, 4, .assign (.tmp 87)⟩])
  (.keep [6, 7, 17, 19, 20, 21, 22, 23, 24, 25, 26, 27, 28, 29, 30]
  (.seq
    (.region [⟨some 89, .none, true, 23, .move (.tmp 17)⟩,
      ⟨some 90, .none, true, 37, .call { callee := .value (.func 21), args := #[.tmp 89], argTypes := #[23] }⟩,
      ⟨some 88, .none, true, 37, .move (.tmp 90)⟩,
      ⟨some 91, .none, true, 2, .extract (.tmp 88) 0⟩,
      ⟨some 92, .none, true, 2, .extract (.tmp 88) 1⟩,
      ⟨some 93, .none, true, 4, .extract (.tmp 88) 2⟩,
      ⟨some 31, .none, true, 2, .assign (.tmp 91)⟩,
      ⟨some 32, .none, true, 2, .assign (.tmp 92)⟩,
      ⟨some 33, .none, true, 4, .assign (.tmp 93)⟩])
  (.keep [6, 7, 17, 19, 20, 21, 22, 23, 24, 25, 26, 27, 28, 29, 30, 31, 32, 33]
  (.seq
    (.region [⟨some 95, .none, true, 23, .move (.tmp 17)⟩,
      ⟨some 96, .none, true, 37, .call { callee := .value (.func 29), args := #[.tmp 95], argTypes := #[23] }⟩,
      ⟨some 94, .none, true, 37, .move (.tmp 96)⟩,
      ⟨some 97, .none, true, 2, .extract (.tmp 94) 0⟩,
      ⟨some 98, .none, true, 2, .extract (.tmp 94) 1⟩,
      ⟨some 99, .none, true, 4, .extract (.tmp 94) 2⟩,
      ⟨some 34, .none, true, 2, .assign (.tmp 97)⟩,
      ⟨some 35, .none, true, 2, .assign (.tmp 98)⟩,
      ⟨some 36, .none, true, 4, .assign (.tmp 99)⟩])
  (.keep [6, 7, 17, 19, 20, 21, 22, 23, 24, 25, 26, 27, 28, 29, 30, 31, 32, 33, 34, 35, 36]
  (.seq
    (.region [⟨some 101, .none, true, 23, .move (.tmp 17)⟩,
      ⟨some 102, .none, true, 42, .call { callee := .value (.func 23), args := #[.tmp 101], argTypes := #[23] }⟩,
      ⟨some 100, .none, true, 42, .move (.tmp 102)⟩,
      ⟨some 103, .none, true, 34, .extract (.tmp 100) 0⟩,
      ⟨some 104, .none, true, 4, .extract (.tmp 100) 1⟩,
      ⟨some 37, .none, true, 34, .assign (.tmp 103)⟩,
      ⟨some 38, .none, true, 4, .assign (.tmp 104)⟩])
  (.keep [6, 7, 17, 19, 20, 21, 22, 23, 24, 25, 26, 27, 28, 29, 30, 31, 32, 33, 34, 35, 36, 37, 38]
  (.seq
    (.region [⟨some 106, .none, true, 23, .move (.tmp 17)⟩,
      ⟨some 107, .none, true, 42, .call { callee := .value (.func 30), args := #[.tmp 106], argTypes := #[23] }⟩,
      ⟨some 105, .none, true, 42, .move (.tmp 107)⟩,
      ⟨some 108, .none, true, 34, .extract (.tmp 105) 0⟩,
      ⟨some 109, .none, true, 4, .extract (.tmp 105) 1⟩,
      ⟨some 39, .none, true, 34, .assign (.tmp 108)⟩,
      ⟨some 40, .none, true, 4, .assign (.tmp 109)⟩])
  (.keep [6, 7, 17, 19, 20, 21, 22, 23, 24, 25, 26, 27, 28, 29, 30, 31, 32, 33, 34, 35, 36, 37, 38, 39, 40]
  (.seq
    (.region [⟨some 110, .none, true, 4, .move (.tmp 20)⟩,
      ⟨some 111, .none, true, 4, .move (.tmp 22)⟩,
      ⟨some 112, .none, true, 4, .binOp .eql 4 (.tmp 110) (.tmp 111) 4⟩,
      ⟨some 113, .none, true, 4, .move (.tmp 112)⟩,
      ⟨some 114, .some 113 true, true, 23, .move (.tmp 19)⟩,
      ⟨some 115, .some 113 true, true, 23, .move (.tmp 21)⟩,
      ⟨some 116, .some 113 true, true, 4, .call { callee := .value (.func 18), args := #[.tmp 114, .tmp 115], argTypes := #[23, 23] }⟩,
      ⟨some 117, .none, true, 4, .pick (.tmp 113) (.tmp 116) (.const (.bool false))⟩,
      ⟨some 118, .none, true, 4, .move (.tmp 117)⟩,
      ⟨some 119, .some 118 true, true, 4, .move (.tmp 24)⟩,
      ⟨some 120, .some 118 true, true, 4, .move (.tmp 26)⟩,
      ⟨some 121, .some 118 true, true, 4, .binOp .eql 4 (.tmp 119) (.tmp 120) 4⟩,
      ⟨some 122, .none, true, 4, .pick (.tmp 118) (.tmp 121) (.const (.bool false))⟩,
      ⟨some 123, .none, true, 4, .move (.tmp 122)⟩,
      ⟨some 124, .some 123 true, true, 23, .move (.tmp 23)⟩,
      ⟨some 125, .some 123 true, true, 23, .move (.tmp 25)⟩,
      ⟨some 126, .some 123 true, true, 4, .call { callee := .value (.func 18), args := #[.tmp 124, .tmp 125], argTypes := #[23, 23] }⟩,
      ⟨some 127, .none, true, 4, .pick (.tmp 123) (.tmp 126) (.const (.bool false))⟩,
      ⟨some 128, .none, true, 4, .move (.tmp 127)⟩,
      ⟨some 129, .some 128 true, true, 4, .move (.tmp 28)⟩,
      ⟨some 130, .some 128 true, true, 4, .move (.tmp 30)⟩,
      ⟨some 131, .some 128 true, true, 4, .binOp .eql 4 (.tmp 129) (.tmp 130) 4⟩,
      ⟨some 132, .none, true, 4, .pick (.tmp 128) (.tmp 131) (.const (.bool false))⟩,
      ⟨some 133, .none, true, 4, .move (.tmp 132)⟩,
      ⟨some 134, .some 133 true, true, 23, .move (.tmp 27)⟩,
      ⟨some 135, .some 133 true, true, 23, .move (.tmp 29)⟩,
      ⟨some 136, .some 133 true, true, 4, .call { callee := .value (.func 18), args := #[.tmp 134, .tmp 135], argTypes := #[23, 23] }⟩,
      ⟨some 137, .none, true, 4, .pick (.tmp 133) (.tmp 136) (.const (.bool false))⟩,
      ⟨some 138, .none, true, 4, .move (.tmp 137)⟩,
      ⟨some 139, .some 138 true, true, 4, .move (.tmp 33)⟩,
      ⟨some 140, .some 138 true, true, 4, .move (.tmp 36)⟩,
      ⟨some 141, .some 138 true, true, 4, .binOp .eql 4 (.tmp 139) (.tmp 140) 4⟩,
      ⟨some 142, .none, true, 4, .pick (.tmp 138) (.tmp 141) (.const (.bool false))⟩,
      ⟨some 143, .none, true, 4, .move (.tmp 142)⟩,
      ⟨some 144, .some 143 true, true, 2, .move (.tmp 31)⟩,
      ⟨some 145, .some 143 true, true, 2, .move (.tmp 34)⟩,
      ⟨some 146, .some 143 true, true, 4, .binOp .eql 2 (.tmp 144) (.tmp 145) 2⟩,
      ⟨some 147, .none, true, 4, .pick (.tmp 143) (.tmp 146) (.const (.bool false))⟩,
      ⟨some 148, .none, true, 4, .move (.tmp 147)⟩,
      ⟨some 149, .some 148 true, true, 2, .move (.tmp 32)⟩,
      ⟨some 150, .some 148 true, true, 2, .move (.tmp 35)⟩,
      ⟨some 151, .some 148 true, true, 4, .binOp .eql 2 (.tmp 149) (.tmp 150) 2⟩,
      ⟨some 152, .none, true, 4, .pick (.tmp 148) (.tmp 151) (.const (.bool false))⟩,
      ⟨some 153, .none, true, 4, .move (.tmp 152)⟩,
      ⟨some 154, .some 153 true, true, 4, .move (.tmp 38)⟩,
      ⟨some 155, .some 153 true, true, 4, .move (.tmp 40)⟩,
      ⟨some 156, .some 153 true, true, 4, .binOp .eql 4 (.tmp 154) (.tmp 155) 4⟩,
      ⟨some 157, .none, true, 4, .pick (.tmp 153) (.tmp 156) (.const (.bool false))⟩,
      ⟨some 158, .none, true, 4, .move (.tmp 157)⟩,
      ⟨some 159, .some 158 true, true, 34, .move (.tmp 37)⟩,
      ⟨some 160, .some 158 true, true, 34, .move (.tmp 39)⟩,
      ⟨some 161, .some 158 true, true, 4, .binOp .eql 34 (.tmp 159) (.tmp 160) 34⟩,
      ⟨some 162, .none, true, 4, .pick (.tmp 158) (.tmp 161) (.const (.bool false))⟩,
      ⟨some 163, .none, true, 4, .move (.tmp 162)⟩,
      ⟨some 164, .some 163 true, true, 23, .move (.tmp 17)⟩,
      ⟨some 165, .some 163 true, true, 4, .call { callee := .value (.func 19), args := #[.tmp 164], argTypes := #[23] }⟩,
      ⟨some 166, .some 163 true, true, 4, .move (.tmp 36)⟩,
      ⟨some 167, .some 163 true, true, 4, .binOp .eql 4 (.tmp 165) (.tmp 166) 4⟩,
      ⟨some 168, .none, true, 4, .pick (.tmp 163) (.tmp 167) (.const (.bool false))⟩,
      ⟨some 169, .none, true, 4, .move (.tmp 168)⟩,
      ⟨some 170, .some 169 true, true, 23, .move (.tmp 17)⟩,
      ⟨some 171, .some 169 true, true, 3, .move (.tmp 6)⟩,
      ⟨some 172, .some 169 true, true, 23, .call { callee := .value (.func 16), args := #[.tmp 170, .tmp 171], argTypes := #[23, 3] }⟩,
      ⟨some 173, .some 169 true, true, 23, .move (.tmp 17)⟩,
      ⟨some 174, .some 169 true, true, 3, .move (.tmp 6)⟩,
      ⟨some 175, .some 169 true, true, 23, .call { callee := .value (.func 31), args := #[.tmp 173, .tmp 174], argTypes := #[23, 3] }⟩,
      ⟨some 176, .some 169 true, true, 4, .call { callee := .value (.func 18), args := #[.tmp 172, .tmp 175], argTypes := #[23, 23] }⟩,
      ⟨some 177, .none, true, 4, .pick (.tmp 169) (.tmp 176) (.const (.bool false))⟩,
      ⟨some 178, .none, true, 4, .move (.tmp 177)⟩,
      ⟨some 179, .some 178 true, true, 23, .move (.tmp 17)⟩,
      ⟨some 180, .some 178 true, true, 2, .call { callee := .value (.func 25), args := #[.tmp 179], argTypes := #[23] }⟩,
      ⟨some 181, .some 178 true, true, 23, .move (.tmp 17)⟩,
      ⟨some 182, .some 178 true, true, 2, .call { callee := .value (.func 32), args := #[.tmp 181], argTypes := #[23] }⟩,
      ⟨some 183, .some 178 true, true, 4, .binOp .eql 2 (.tmp 180) (.tmp 182) 2⟩,
      ⟨some 184, .none, true, 4, .pick (.tmp 178) (.tmp 183) (.const (.bool false))⟩,
      ⟨some 185, .none, true, 4, .move (.tmp 184)⟩,
      ⟨some 186, .some 185 true, true, 31, .move (.tmp 7)⟩,
      ⟨some 187, .some 185 true, true, 23, .call { callee := .value (.func 20), args := #[.tmp 186], argTypes := #[31] }⟩,
      ⟨some 188, .some 185 true, true, 31, .move (.tmp 7)⟩,
      ⟨some 189, .some 185 true, true, 23, .call { callee := .value (.func 33), args := #[.tmp 188], argTypes := #[31] }⟩,
      ⟨some 190, .some 185 true, true, 4, .call { callee := .value (.func 18), args := #[.tmp 187, .tmp 189], argTypes := #[23, 23] }⟩,
      ⟨some 191, .none, true, 4, .pick (.tmp 185) (.tmp 190) (.const (.bool false))⟩,
      ⟨some 16, .none, true, 4, .assign (.tmp 191)⟩])
  .ret)))))))))))))))))))))))))))
theorem t_reevelaw1_GaussSays : FnT Try.prog f_reevelaw1_GaussSays rc_reevelaw1_GaussSays [.tmp 16] 8 := ⟨⟨[], Try.f9, _, Try.func9, rfl, by kernel_rfl, by kernel_rfl, by kernel_rfl, rfl, by decide⟩, by kernel_rfl⟩
/-- reeve/reevelaw1.awake -/
abbrev f_reevelaw1_awake : FuncId := 14
def rc_reevelaw1_awake : RCode :=
  (.seq
    (.region [⟨some 0, .none, true, 4, .assign (.const (.bool false))⟩])
  (.keep []
  (.seq
    (.region [⟨some 4, .none, true, 24, .call { callee := .value (.func 17), args := #[.const (.complex .f64 4607182418800017408 4611686018427387904), .const (.complex .f64 4613937818241073152 13830554455654793216)], argTypes := #[23, 23] }⟩,
      ⟨some 3, .none, true, 24, .move (.tmp 4)⟩,
      ⟨some 5, .none, true, 23, .extract (.tmp 3) 0⟩,
      ⟨some 6, .none, true, 4, .extract (.tmp 3) 1⟩,
      ⟨some 1, .none, true, 23, .assign (.tmp 5)⟩,
      ⟨some 2, .none, true, 4, .assign (.tmp 6)⟩])
  (.keep [1, 2]
  (.seq
    (.region [⟨some 7, .none, true, 4, .move (.tmp 2)⟩,
      ⟨some 8, .none, true, 4, .move (.tmp 7)⟩,
      ⟨some 9, .some 8 true, true, 23, .move (.tmp 1)⟩,
      ⟨some 10, .some 8 true, true, 4, .binOp .eql 23 (.tmp 9) (.const (.complex .f64 4617315517961601024 4617315517961601024)) 23⟩,
      ⟨some 11, .none, true, 4, .pick (.tmp 8) (.tmp 10) (.const (.bool false))⟩,
      ⟨some 12, .none, true, 4, .move (.tmp 11)⟩,
      ⟨some 13, .some 12 true, true, 31, .buildSlice 31 1 #[(0, .const (.int .u64 1))]⟩,
      ⟨some 14, .some 12 true, true, 23, .call { callee := .value (.func 20), args := #[.tmp 13], argTypes := #[31] }⟩,
      ⟨some 15, .some 12 true, true, 4, .binOp .eql 23 (.tmp 14) (.const (.complex .f64 4607182418800017408 0)) 23⟩,
      ⟨some 16, .none, true, 4, .pick (.tmp 12) (.tmp 15) (.const (.bool false))⟩,
      ⟨some 17, .none, true, 4, .move (.tmp 16)⟩,
      ⟨some 18, .some 17 true, true, 23, .move (.tmp 1)⟩,
      ⟨some 19, .some 17 true, true, 4, .call { callee := .value (.func 19), args := #[.tmp 18], argTypes := #[23] }⟩,
      ⟨some 20, .none, true, 4, .pick (.tmp 17) (.tmp 19) (.const (.bool false))⟩,
      ⟨some 0, .none, true, 4, .assign (.tmp 20)⟩])
  .ret)))))
theorem t_reevelaw1_awake : FnT Try.prog f_reevelaw1_awake rc_reevelaw1_awake [.tmp 0] 0 := ⟨⟨[], Try.f14, _, Try.func14, rfl, by kernel_rfl, by kernel_rfl, by kernel_rfl, rfl, by decide⟩, by kernel_rfl⟩
/-- reeve/gauss.Of -/
abbrev f_gauss_Of : FuncId := 15
def rc_gauss_Of : RCode :=
  (.seq
    (.region [⟨some 4, .none, true, 23, .assign (.const (.complex .f64 0 0))⟩,
      ⟨some 5, .none, true, 4, .assign (.const (.bool false))⟩])
  (.keep [0, 1]
  (.seq
    (.seq
      (.region [⟨some 6, .none, true, 2, .move (.tmp 0)⟩,
        ⟨some 7, .none, true, 4, .call { callee := .value (.func 46), args := #[.tmp 6], argTypes := #[2] }⟩,
        ⟨some 8, .none, true, 4, .unOp .not 4 (.tmp 7)⟩,
        ⟨some 9, .none, true, 4, .move (.tmp 8)⟩,
        ⟨some 10, .some 9 false, true, 2, .move (.tmp 1)⟩,
        ⟨some 11, .some 9 false, true, 4, .call { callee := .value (.func 46), args := #[.tmp 10], argTypes := #[2] }⟩,
        ⟨some 12, .some 9 false, true, 4, .unOp .not 4 (.tmp 11)⟩,
        ⟨some 13, .none, true, 4, .pick (.tmp 9) (.const (.bool true)) (.tmp 12)⟩])
    (.keep [0, 1, 13]
    (.cond (.tmp 13)
      (.seq
        (.region [⟨some 4, .none, true, 23, .assign (.const (.complex .f64 0 0))⟩,
          ⟨some 5, .none, true, 4, .assign (.const (.bool false))⟩])
      .ret)
      .skip)))
  (.seq
    (.region [⟨some 14, .none, true, 2, .move (.tmp 0)⟩,
      ⟨some 15, .none, true, 48, .convert 2 48 (.tmp 14)⟩,
      ⟨some 16, .none, true, 2, .move (.tmp 1)⟩,
      ⟨some 17, .none, true, 48, .convert 2 48 (.tmp 16)⟩,
      ⟨some 18, .none, true, 23, .call { callee := .builtin .complex, args := #[.tmp 15, .tmp 17], argTypes := #[48, 48] }⟩,
      ⟨some 4, .none, true, 23, .assign (.tmp 18)⟩,
      ⟨some 5, .none, true, 4, .assign (.const (.bool true))⟩])
  .ret))))
theorem t_gauss_Of : FnT Try.prog f_gauss_Of rc_gauss_Of [.tmp 4, .tmp 5] 2 := ⟨⟨[], Try.f15, _, Try.func15, rfl, by kernel_rfl, by kernel_rfl, by kernel_rfl, rfl, by decide⟩, by kernel_rfl⟩
/-- reeve/gauss.Turn -/
abbrev f_gauss_Turn : FuncId := 16
def rc_gauss_Turnl0 : RCode :=
  (.seq
    (.region [⟨some 21, .none, true, 4, .binOp .lss 3 (.tmp 20) (.tmp 19) 3⟩])
  (.keep [5, 6, 19, 20, 21]
  (.seq
    (.cond (.tmp 21)
      .skip
      (.exit 0))
  (.keep [5, 6, 19, 20]
  (.seq
    (.block 1
      (.region [⟨some 22, .none, true, 2, .move (.tmp 6)⟩,
        ⟨some 23, .none, true, 2, .unOp .neg 2 (.tmp 22)⟩,
        ⟨some 24, .none, true, 2, .move (.tmp 5)⟩,
        ⟨some 5, .none, true, 2, .assign (.tmp 23)⟩,
        ⟨some 6, .none, true, 2, .assign (.tmp 24)⟩]))
  (.keep [5, 6, 19, 20]
  (.region [⟨some 25, .none, true, 3, .binOp .add 3 (.tmp 20) (.const (.int .i64 1)) 3⟩,
    ⟨some 20, .none, true, 3, .move (.tmp 25)⟩])))))))
def rc_gauss_Turn : RCode :=
  (.seq
    (.region [⟨some 4, .none, true, 23, .assign (.const (.complex .f64 0 0))⟩])
  (.keep [0, 1]
  (.seq
    (.region [⟨some 9, .none, true, 23, .move (.tmp 0)⟩,
      ⟨some 10, .none, true, 37, .call { callee := .value (.func 21), args := #[.tmp 9], argTypes := #[23] }⟩,
      ⟨some 8, .none, true, 37, .move (.tmp 10)⟩,
      ⟨some 11, .none, true, 2, .extract (.tmp 8) 0⟩,
      ⟨some 12, .none, true, 2, .extract (.tmp 8) 1⟩,
      ⟨some 13, .none, true, 4, .extract (.tmp 8) 2⟩,
      ⟨some 5, .none, true, 2, .assign (.tmp 11)⟩,
      ⟨some 6, .none, true, 2, .assign (.tmp 12)⟩,
      ⟨some 7, .none, true, 4, .assign (.tmp 13)⟩])
  (.keep [1, 5, 6, 7]
  (.seq
    (.seq
      (.region [⟨some 14, .none, true, 4, .move (.tmp 7)⟩,
        ⟨some 15, .none, true, 4, .unOp .not 4 (.tmp 14)⟩])
    (.keep [1, 5, 6, 15]
    (.cond (.tmp 15)
      (.seq
        (.region [⟨some 4, .none, true, 23, .assign (.const (.complex .f64 0 0))⟩])
      .ret)
      .skip)))
  (.seq
    (.seq
      (.region [⟨some 16, .none, true, 3, .move (.tmp 1)⟩,
        ⟨some 17, .none, true, 3, .binOp .rem 3 (.tmp 16) (.const (.int .i64 4)) 3⟩,
        ⟨some 18, .none, true, 3, .binOp .add 3 (.tmp 17) (.const (.int .i64 4)) 3⟩,
        ⟨some 19, .none, true, 3, .binOp .rem 3 (.tmp 18) (.const (.int .i64 4)) 3⟩,
        ⟨some 20, .none, true, 3, .move (.const (.int .i64 0))⟩])
    (.keep [5, 6, 19, 20]
    (.block 0
      (.loop [5, 6, 19, 20] rc_gauss_Turnl0))))
  (.seq
    (.region [⟨some 27, .none, true, 2, .move (.tmp 5)⟩,
      ⟨some 28, .none, true, 2, .move (.tmp 6)⟩,
      ⟨some 29, .none, true, 24, .call { callee := .value (.func 15), args := #[.tmp 27, .tmp 28], argTypes := #[2, 2] }⟩,
      ⟨some 26, .none, true, 24, .move (.tmp 29)⟩,
      ⟨some 30, .none, true, 23, .extract (.tmp 26) 0⟩,
      ⟨some 31, .none, true, 4, .extract (.tmp 26) 1⟩,
      ⟨some 0, .none, true, 23, .assign (.tmp 30)⟩])
  (.keep [0]
  (.seq
    (.region [⟨some 32, .none, true, 23, .move (.tmp 0)⟩,
      ⟨some 4, .none, true, 23, .assign (.tmp 32)⟩])
  .ret)))))))))
theorem t_gauss_Turn : FnT Try.prog f_gauss_Turn rc_gauss_Turn [.tmp 4] 2 := ⟨⟨[], Try.f16, _, Try.func16, rfl, by kernel_rfl, by kernel_rfl, by kernel_rfl, rfl, by decide⟩, by kernel_rfl⟩
/-- reeve/gauss.Mul -/
abbrev f_gauss_Mul : FuncId := 17
def rc_gauss_Mul : RCode :=
  (.seq
    (.region [⟨some 4, .none, true, 23, .assign (.const (.complex .f64 0 0))⟩,
      ⟨some 5, .none, true, 4, .assign (.const (.bool false))⟩])
  (.keep [0, 1]
  (.seq
    (.region [⟨some 13, .none, true, 23, .move (.tmp 0)⟩,
      ⟨some 14, .none, true, 37, .call { callee := .value (.func 21), args := #[.tmp 13], argTypes := #[23] }⟩,
      ⟨some 12, .none, true, 37, .move (.tmp 14)⟩,
      ⟨some 15, .none, true, 2, .extract (.tmp 12) 0⟩,
      ⟨some 16, .none, true, 2, .extract (.tmp 12) 1⟩,
      ⟨some 17, .none, true, 4, .extract (.tmp 12) 2⟩,
      ⟨some 6, .none, true, 2, .assign (.tmp 15)⟩,
      ⟨some 7, .none, true, 2, .assign (.tmp 16)⟩,
      ⟨some 8, .none, true, 4, .assign (.tmp 17)⟩])
  (.keep [1, 6, 7, 8]
  (.seq
    (.region [⟨some 19, .none, true, 23, .move (.tmp 1)⟩,
      ⟨some 20, .none, true, 37, .call { callee := .value (.func 21), args := #[.tmp 19], argTypes := #[23] }⟩,
      ⟨some 18, .none, true, 37, .move (.tmp 20)⟩,
      ⟨some 21, .none, true, 2, .extract (.tmp 18) 0⟩,
      ⟨some 22, .none, true, 2, .extract (.tmp 18) 1⟩,
      ⟨some 23, .none, true, 4, .extract (.tmp 18) 2⟩,
      ⟨some 9, .none, true, 2, .assign (.tmp 21)⟩,
      ⟨some 10, .none, true, 2, .assign (.tmp 22)⟩,
      ⟨some 11, .none, true, 4, .assign (.tmp 23)⟩])
  (.keep [6, 7, 8, 9, 10, 11]
  (.seq
    (.seq
      (.region [⟨some 24, .none, true, 4, .move (.tmp 8)⟩,
        ⟨some 25, .none, true, 4, .unOp .not 4 (.tmp 24)⟩,
        ⟨some 26, .none, true, 4, .move (.tmp 25)⟩,
        ⟨some 27, .some 26 false, true, 4, .move (.tmp 11)⟩,
        ⟨some 28, .some 26 false, true, 4, .unOp .not 4 (.tmp 27)⟩,
        ⟨some 29, .none, true, 4, .pick (.tmp 26) (.const (.bool true)) (.tmp 28)⟩,
        ⟨some 30, .none, true, 4, .move (.tmp 29)⟩,
        ⟨some 31, .some 30 false, true, 2, .move (.tmp 6)⟩,
        ⟨some 32, .some 30 false, true, 2, .move (.tmp 7)⟩,
        ⟨some 33, .some 30 false, true, 4, .call { callee := .value (.func 47), args := #[.tmp 31, .tmp 32], argTypes := #[2, 2] }⟩,
        ⟨some 34, .some 30 false, true, 4, .unOp .not 4 (.tmp 33)⟩,
        ⟨some 35, .none, true, 4, .pick (.tmp 30) (.const (.bool true)) (.tmp 34)⟩,
        ⟨some 36, .none, true, 4, .move (.tmp 35)⟩,
        ⟨some 37, .some 36 false, true, 2, .move (.tmp 9)⟩,
        ⟨some 38, .some 36 false, true, 2, .move (.tmp 10)⟩,
        ⟨some 39, .some 36 false, true, 4, .call { callee := .value (.func 47), args := #[.tmp 37, .tmp 38], argTypes := #[2, 2] }⟩,
        ⟨some 40, .some 36 false, true, 4, .unOp .not 4 (.tmp 39)⟩,
        ⟨some 41, .none, true, 4, .pick (.tmp 36) (.const (.bool true)) (.tmp 40)⟩])
    (.keep [6, 7, 9, 10, 41]
    (.cond (.tmp 41)
      (.seq
        (.region [⟨some 4, .none, true, 23, .assign (.const (.complex .f64 0 0))⟩,
          ⟨some 5, .none, true, 4, .assign (.const (.bool false))⟩])
      .ret)
      .skip)))
  (.seq
    (.region [⟨some 42, .none, true, 2, .move (.tmp 6)⟩,
      ⟨some 43, .none, true, 2, .move (.tmp 9)⟩,
      ⟨some 44, .none, true, 2, .binOp .mul 2 (.tmp 42) (.tmp 43) 2⟩,
      ⟨some 45, .none, true, 2, .move (.tmp 7)⟩,
      ⟨some 46, .none, true, 2, .move (.tmp 10)⟩,
      ⟨some 47, .none, true, 2, .binOp .mul 2 (.tmp 45) (.tmp 46) 2⟩,
      ⟨some 48, .none, true, 2, .binOp .sub 2 (.tmp 44) (.tmp 47) 2⟩,
      ⟨some 49, .none, true, 2, .move (.tmp 6)⟩,
      ⟨some 50, .none, true, 2, .move (.tmp 10)⟩,
      ⟨some 51, .none, true, 2, .binOp .mul 2 (.tmp 49) (.tmp 50) 2⟩,
      ⟨some 52, .none, true, 2, .move (.tmp 7)⟩,
      ⟨some 53, .none, true, 2, .move (.tmp 9)⟩,
      ⟨some 54, .none, true, 2, .binOp .mul 2 (.tmp 52) (.tmp 53) 2⟩,
      ⟨some 55, .none, true, 2, .binOp .add 2 (.tmp 51) (.tmp 54) 2⟩,
      ⟨some 56, .none, true, 24, .call { callee := .value (.func 15), args := #[.tmp 48, .tmp 55], argTypes := #[2, 2] }⟩,
      ⟨some 57, .none, true, 23, .extract (.tmp 56) 0⟩,
      ⟨some 58, .none, true, 4, .extract (.tmp 56) 1⟩,
      ⟨some 4, .none, true, 23, .assign (.tmp 57)⟩,
      ⟨some 5, .none, true, 4, .assign (.tmp 58)⟩])
  .ret))))))))
theorem t_gauss_Mul : FnT Try.prog f_gauss_Mul rc_gauss_Mul [.tmp 4, .tmp 5] 2 := ⟨⟨[], Try.f17, _, Try.func17, rfl, by kernel_rfl, by kernel_rfl, by kernel_rfl, rfl, by decide⟩, by kernel_rfl⟩
/-- reeve/reevelaw1.same -/
abbrev f_reevelaw1_same : FuncId := 18
def rc_reevelaw1_same : RCode :=
  (.seq
    (.region [⟨some 4, .none, true, 4, .assign (.const (.bool false))⟩])
  (.keep [0, 1]
  (.seq
    (.region [⟨some 5, .none, true, 23, .move (.tmp 0)⟩,
      ⟨some 6, .none, true, 23, .move (.tmp 1)⟩,
      ⟨some 7, .none, true, 4, .binOp .eql 23 (.tmp 5) (.tmp 6) 23⟩,
      ⟨some 8, .none, true, 4, .move (.tmp 7)⟩,
      ⟨some 9, .some 8 true, true, 23, .move (.tmp 0)⟩,
      ⟨some 10, .some 8 true, true, 48, .call { callee := .builtin .real, args := #[.tmp 9], argTypes := #[23] }⟩,
      ⟨some 11, .some 8 true, true, 4, .binOp .neq 48 (.tmp 10) (.const (.float .f64 0)) 48⟩,
      ⟨some 12, .some 8 true, true, 4, .move (.tmp 11)⟩,
      ⟨some 13, .some 12 false, true, 23, .move (.tmp 0)⟩,
      ⟨some 14, .some 12 false, true, 48, .call { callee := .builtin .real, args := #[.tmp 13], argTypes := #[23] }⟩,
      ⟨some 15, .some 12 false, true, 48, .binOp .quo 48 (.const (.float .f64 4607182418800017408)) (.tmp 14) 48⟩,
      ⟨some 16, .some 12 false, true, 23, .move (.tmp 1)⟩,
      ⟨some 17, .some 12 false, true, 48, .call { callee := .builtin .real, args := #[.tmp 16], argTypes := #[23] }⟩,
      ⟨some 18, .some 12 false, true, 48, .binOp .quo 48 (.const (.float .f64 4607182418800017408)) (.tmp 17) 48⟩,
      ⟨some 19, .some 12 false, true, 4, .binOp .eql 48 (.tmp 15) (.tmp 18) 48⟩,
      ⟨some 20, .some 8 true, true, 4, .pick (.tmp 12) (.const (.bool true)) (.tmp 19)⟩,
      ⟨some 21, .none, true, 4, .pick (.tmp 8) (.tmp 20) (.const (.bool false))⟩,
      ⟨some 22, .none, true, 4, .move (.tmp 21)⟩,
      ⟨some 23, .some 22 true, true, 23, .move (.tmp 0)⟩,
      ⟨some 24, .some 22 true, true, 48, .call { callee := .builtin .imag, args := #[.tmp 23], argTypes := #[23] }⟩,
      ⟨some 25, .some 22 true, true, 4, .binOp .neq 48 (.tmp 24) (.const (.float .f64 0)) 48⟩,
      ⟨some 26, .some 22 true, true, 4, .move (.tmp 25)⟩,
      ⟨some 27, .some 26 false, true, 23, .move (.tmp 0)⟩,
      ⟨some 28, .some 26 false, true, 48, .call { callee := .builtin .imag, args := #[.tmp 27], argTypes := #[23] }⟩,
      ⟨some 29, .some 26 false, true, 48, .binOp .quo 48 (.const (.float .f64 4607182418800017408)) (.tmp 28) 48⟩,
      ⟨some 30, .some 26 false, true, 23, .move (.tmp 1)⟩,
      ⟨some 31, .some 26 false, true, 48, .call { callee := .builtin .imag, args := #[.tmp 30], argTypes := #[23] }⟩,
      ⟨some 32, .some 26 false, true, 48, .binOp .quo 48 (.const (.float .f64 4607182418800017408)) (.tmp 31) 48⟩,
      ⟨some 33, .some 26 false, true, 4, .binOp .eql 48 (.tmp 29) (.tmp 32) 48⟩,
      ⟨some 34, .some 22 true, true, 4, .pick (.tmp 26) (.const (.bool true)) (.tmp 33)⟩,
      ⟨some 35, .none, true, 4, .pick (.tmp 22) (.tmp 34) (.const (.bool false))⟩,
      ⟨some 4, .none, true, 4, .assign (.tmp 35)⟩])
  .ret)))
theorem t_reevelaw1_same : FnT Try.prog f_reevelaw1_same rc_reevelaw1_same [.tmp 4] 2 := ⟨⟨[], Try.f18, _, Try.func18, rfl, by kernel_rfl, by kernel_rfl, by kernel_rfl, rfl, by decide⟩, by kernel_rfl⟩
/-- reeve/gauss.Whole -/
abbrev f_gauss_Whole : FuncId := 19
def rc_gauss_Whole : RCode :=
  (.seq
    (.region [⟨some 2, .none, true, 4, .assign (.const (.bool false))⟩])
  (.keep [0]
  (.seq
    (.region [⟨some 7, .none, true, 23, .move (.tmp 0)⟩,
      ⟨some 8, .none, true, 37, .call { callee := .value (.func 21), args := #[.tmp 7], argTypes := #[23] }⟩,
      ⟨some 6, .none, true, 37, .move (.tmp 8)⟩,
      ⟨some 9, .none, true, 2, .extract (.tmp 6) 0⟩,
      ⟨some 10, .none, true, 2, .extract (.tmp 6) 1⟩,
      ⟨some 11, .none, true, 4, .extract (.tmp 6) 2⟩,
      ⟨some 3, .none, true, 2, .assign (.tmp 9)⟩,
      ⟨some 4, .none, true, 2, .assign (.tmp 10)⟩,
      ⟨some 5, .none, true, 4, .assign (.tmp 11)⟩])
  (.keep [5]
  (.seq
    (.region [⟨some 12, .none, true, 4, .move (.tmp 5)⟩,
      ⟨some 2, .none, true, 4, .assign (.tmp 12)⟩])
  .ret)))))
theorem t_gauss_Whole : FnT Try.prog f_gauss_Whole rc_gauss_Whole [.tmp 2] 1 := ⟨⟨[], Try.f19, _, Try.func19, rfl, by kernel_rfl, by kernel_rfl, by kernel_rfl, rfl, by decide⟩, by kernel_rfl⟩
/-- reeve/gauss.Spin -/
abbrev f_gauss_Spin : FuncId := 20
def rc_gauss_Spinl0 : RCode :=
  (.seq
    (.region [⟨some 12, .none, true, 0, .binOp .lss 3 (.tmp 11) (.tmp 10) 3⟩])
  (.keep [3, 9, 10, 11, 12]
  (.seq
    (.cond (.tmp 12)
      .skip
      (.exit 0))
  (.keep [3, 9, 10, 11]
  (.seq
    (.block 1
      (.seq
        (.region [⟨some 13, .none, true, 0, .indexAddr 31 (.tmp 9) (.tmp 11)⟩,
          ⟨some 14, .none, true, 34, .load 34 (.tmp 13)⟩,
          ⟨some 5, .none, true, 34, .assign (.tmp 14)⟩])
      (.keep [3, 5, 9, 10, 11]
      (.seq
        (.region [⟨some 16, .none, true, 23, .move (.tmp 3)⟩,
          ⟨some 17, .none, true, 23, .call { callee := .value (.func 16), args := #[.tmp 16, .const (.int .i64 1)], argTypes := #[23, 3] }⟩,
          ⟨some 18, .none, true, 37, .call { callee := .value (.func 21), args := #[.tmp 17], argTypes := #[23] }⟩,
          ⟨some 15, .none, true, 37, .move (.tmp 18)⟩,
          ⟨some 19, .none, true, 2, .extract (.tmp 15) 0⟩,
          ⟨some 20, .none, true, 2, .extract (.tmp 15) 1⟩,
          ⟨some 21, .none, true, 4, .extract (.tmp 15) 2⟩,
          ⟨some 6, .none, true, 2, .assign (.tmp 19)⟩,
          ⟨some 7, .none, true, 2, .assign (.tmp 20)⟩,
          ⟨some 8, .none, true, 4, .assign (.tmp 21)⟩])
      (.keep [5, 6, 7, 9, 10, 11]
      (.seq
        (.region [⟨some 22, .none, true, 2, .move (.tmp 6)⟩,
          ⟨some 23, .none, true, 34, .move (.tmp 5)⟩,
          ⟨some 24, .none, true, 32, .convert 34 32 (.tmp 23)⟩,
          ⟨some 25, .none, true, 2, .convert 32 2 (.tmp 24)⟩,
          ⟨some 26, .none, true, 34, .move (.tmp 5)⟩,
          ⟨some 27, .none, true, 34, .binOp .shr 34 (.tmp 26) (.const (.int .u64 32)) 33⟩,
          ⟨some 28, .none, true, 32, .convert 34 32 (.tmp 27)⟩,
          ⟨some 29, .none, true, 2, .convert 32 2 (.tmp 28)⟩,
          ⟨some 30, .none, true, 2, .binOp .sub 2 (.tmp 25) (.tmp 29) 2⟩,
          ⟨some 31, .none, true, 2, .binOp .add 2 (.tmp 22) (.tmp 30) 2⟩,
          ⟨some 6, .none, true, 2, .assign (.tmp 31)⟩])
      (.keep [5, 6, 7, 9, 10, 11]
      (.seq
        (.region [⟨some 32, .none, true, 2, .move (.tmp 7)⟩,
          ⟨some 33, .none, true, 34, .move (.tmp 5)⟩,
          ⟨some 34, .none, true, 34, .binOp .shr 34 (.tmp 33) (.const (.int .u64 16)) 33⟩,
          ⟨some 35, .none, true, 32, .convert 34 32 (.tmp 34)⟩,
          ⟨some 36, .none, true, 2, .convert 32 2 (.tmp 35)⟩,
          ⟨some 37, .none, true, 34, .move (.tmp 5)⟩,
          ⟨some 38, .none, true, 34, .binOp .shr 34 (.tmp 37) (.const (.int .u64 48)) 33⟩,
          ⟨some 39, .none, true, 32, .convert 34 32 (.tmp 38)⟩,
          ⟨some 40, .none, true, 2, .convert 32 2 (.tmp 39)⟩,
          ⟨some 41, .none, true, 2, .binOp .sub 2 (.tmp 36) (.tmp 40) 2⟩,
          ⟨some 42, .none, true, 2, .binOp .add 2 (.tmp 32) (.tmp 41) 2⟩,
          ⟨some 7, .none, true, 2, .assign (.tmp 42)⟩])
      (.keep [6, 7, 9, 10, 11]
      (.region [⟨some 44, .none, true, 2, .move (.tmp 6)⟩,
        ⟨some 45, .none, true, 2, .call { callee := .value (.func 48), args := #[.tmp 44], argTypes := #[2] }⟩,
        ⟨some 46, .none, true, 2, .move (.tmp 7)⟩,
        ⟨some 47, .none, true, 2, .call { callee := .value (.func 48), args := #[.tmp 46], argTypes := #[2] }⟩,
        ⟨some 48, .none, true, 24, .call { callee := .value (.func 15), args := #[.tmp 45, .tmp 47], argTypes := #[2, 2] }⟩,
        ⟨some 43, .none, true, 24, .move (.tmp 48)⟩,
        ⟨some 49, .none, true, 23, .extract (.tmp 43) 0⟩,
        ⟨some 50, .none, true, 4, .extract (.tmp 43) 1⟩,
        ⟨some 3, .none, true, 23, .assign (.tmp 49)⟩]))))))))))
  (.keep [3, 9, 10, 11]
  (.region [⟨some 51, .none, true, 3, .binOp .add 3 (.tmp 11) (.const (.int .i64 1)) 3⟩,
    ⟨some 11, .none, true, 3, .move (.tmp 51)⟩])))))))
def rc_gauss_Spin : RCode :=
  (.seq
    (.region [⟨some 2, .none, true, 23, .assign (.const (.complex .f64 0 0))⟩])
  (.keep [0]
  (.seq
    (.region [⟨some 3, .none, true, 23, .assign (.const (.complex .f64 0 0))⟩])
  (.keep [0, 3]
  (.seq
    (.seq
      (.region [⟨some 9, .none, true, 31, .move (.tmp 0)⟩,
        ⟨some 10, .none, true, 3, .call { callee := .builtin .len, args := #[.tmp 9], argTypes := #[31] }⟩,
        ⟨some 11, .none, true, 3, .move (.const (.int .i64 0))⟩])
    (.keep [3, 9, 10, 11]
    (.block 0
      (.loop [3, 9, 10, 11] rc_gauss_Spinl0))))
  (.seq
    (.region [⟨some 52, .none, true, 23, .move (.tmp 3)⟩,
      ⟨some 2, .none, true, 23, .assign (.tmp 52)⟩])
  .ret))))))
theorem t_gauss_Spin : FnT Try.prog f_gauss_Spin rc_gauss_Spin [.tmp 2] 1 := ⟨⟨[], Try.f20, _, Try.func20, rfl, by kernel_rfl, by kernel_rfl, by kernel_rfl, rfl, by decide⟩, by kernel_rfl⟩
/-- reeve/gauss.Parts -/
abbrev f_gauss_Parts : FuncId := 21
def rc_gauss_Parts : RCode :=
  (.seq
    (.region [⟨some 2, .none, true, 2, .assign (.const (.int .i64 0))⟩,
      ⟨some 3, .none, true, 2, .assign (.const (.int .i64 0))⟩,
      ⟨some 4, .none, true, 4, .assign (.const (.bool false))⟩])
  (.keep [0]
  (.seq
    (.region [⟨some 8, .none, true, 23, .move (.tmp 0)⟩,
      ⟨some 9, .none, true, 48, .call { callee := .builtin .real, args := #[.tmp 8], argTypes := #[23] }⟩,
      ⟨some 10, .none, true, 77, .call { callee := .value (.func 49), args := #[.tmp 9], argTypes := #[48] }⟩,
      ⟨some 7, .none, true, 77, .move (.tmp 10)⟩,
      ⟨some 11, .none, true, 2, .extract (.tmp 7) 0⟩,
      ⟨some 12, .none, true, 4, .extract (.tmp 7) 1⟩,
      ⟨some 2, .none, true, 2, .assign (.tmp 11)⟩,
      ⟨some 5, .none, true, 4, .assign (.tmp 12)⟩])
  (.keep [0, 2, 5]
  (.seq
    (.region [⟨some 14, .none, true, 23, .move (.tmp 0)⟩,
      ⟨some 15, .none, true, 48, .call { callee := .builtin .imag, args := #[.tmp 14], argTypes := #[23] }⟩,
      ⟨some 16, .none, true, 77, .call { callee := .value (.func 49), args := #[.tmp 15], argTypes := #[48] }⟩,
      ⟨some 13, .none, true, 77, .move (.tmp 16)⟩,
      ⟨some 17, .none, true, 2, .extract (.tmp 13) 0⟩,
      ⟨some 18, .none, true, 4, .extract (.tmp 13) 1⟩,
      ⟨some 3, .none, true, 2, .assign (.tmp 17)⟩,
      ⟨some 6, .none, true, 4, .assign (.tmp 18)⟩])
  (.keep [2, 3, 5, 6]
  (.seq
    (.seq
      (.region [⟨some 19, .none, true, 4, .move (.tmp 5)⟩,
        ⟨some 20, .none, true, 4, .unOp .not 4 (.tmp 19)⟩,
        ⟨some 21, .none, true, 4, .move (.tmp 20)⟩,
        ⟨some 22, .some 21 false, true, 4, .move (.tmp 6)⟩,
        ⟨some 23, .some 21 false, true, 4, .unOp .not 4 (.tmp 22)⟩,
        ⟨some 24, .none, true, 4, .pick (.tmp 21) (.const (.bool true)) (.tmp 23)⟩])
    (.keep [2, 3, 24]
    (.cond (.tmp 24)
      (.seq
        (.region [⟨some 2, .none, true, 2, .assign (.const (.int .i64 0))⟩,
          ⟨some 3, .none, true, 2, .assign (.const (.int .i64 0))⟩,
          ⟨some 4, .none, true, 4, .assign (.const (.bool false))⟩])
      .ret)
      .skip)))
  (.seq
    (.region [⟨some 25, .none, true, 2, .move (.tmp 2)⟩,
      ⟨some 26, .none, true, 2, .move (.tmp 3)⟩,
      ⟨some 2, .none, true, 2, .assign (.tmp 25)⟩,
      ⟨some 3, .none, true, 2, .assign (.tmp 26)⟩,
      ⟨some 4, .none, true, 4, .assign (.const (.bool true))⟩])
  .ret))))))))
theorem t_gauss_Parts : FnT Try.prog f_gauss_Parts rc_gauss_Parts [.tmp 2, .tmp 3, .tmp 4] 1 := ⟨⟨[], Try.f21, _, Try.func21, rfl, by kernel_rfl, by kernel_rfl, by kernel_rfl, rfl, by decide⟩, by kernel_rfl⟩
/-- reeve/reevelaw1.rest -/
abbrev f_reevelaw1_rest : FuncId := 22
def rc_reevelaw1_rest : RCode :=
  (.seq
    (.region [⟨some 2, .none, true, 2, .assign (.const (.int .i64 0))⟩])
  (.keep [0]
  (.seq
    (.region [⟨some 3, .none, true, 2, .move (.tmp 0)⟩,
      ⟨some 4, .none, true, 2, .binOp .rem 2 (.tmp 3) (.const (.int .i64 1000003)) 2⟩,
      ⟨some 5, .none, true, 2, .binOp .add 2 (.tmp 4) (.const (.int .i64 1000003)) 2⟩,
      ⟨some 6, .none, true, 2, .binOp .rem 2 (.tmp 5) (.const (.int .i64 1000003)) 2⟩,
      ⟨some 2, .none, true, 2, .assign (.tmp 6)⟩])
  .ret)))
theorem t_reevelaw1_rest : FnT Try.prog f_reevelaw1_rest rc_reevelaw1_rest [.tmp 2] 1 := ⟨⟨[], Try.f22, _, Try.func22, rfl, by kernel_rfl, by kernel_rfl, by kernel_rfl, rfl, by decide⟩, by kernel_rfl⟩
/-- reeve/gauss.Word -/
abbrev f_gauss_Word : FuncId := 23
def rc_gauss_Word : RCode :=
  (.seq
    (.region [⟨some 2, .none, true, 34, .assign (.const (.int .u64 0))⟩,
      ⟨some 3, .none, true, 4, .assign (.const (.bool false))⟩])
  (.keep [0]
  (.seq
    (.region [⟨some 8, .none, true, 23, .move (.tmp 0)⟩,
      ⟨some 9, .none, true, 37, .call { callee := .value (.func 21), args := #[.tmp 8], argTypes := #[23] }⟩,
      ⟨some 7, .none, true, 37, .move (.tmp 9)⟩,
      ⟨some 10, .none, true, 2, .extract (.tmp 7) 0⟩,
      ⟨some 11, .none, true, 2, .extract (.tmp 7) 1⟩,
      ⟨some 12, .none, true, 4, .extract (.tmp 7) 2⟩,
      ⟨some 4, .none, true, 2, .assign (.tmp 10)⟩,
      ⟨some 5, .none, true, 2, .assign (.tmp 11)⟩,
      ⟨some 6, .none, true, 4, .assign (.tmp 12)⟩])
  (.keep [4, 5, 6]
  (.seq
    (.seq
      (.region [⟨some 13, .none, true, 4, .move (.tmp 6)⟩,
        ⟨some 14, .none, true, 4, .unOp .not 4 (.tmp 13)⟩,
        ⟨some 15, .none, true, 4, .move (.tmp 14)⟩,
        ⟨some 16, .some 15 false, true, 2, .move (.tmp 4)⟩,
        ⟨some 17, .some 15 false, true, 4, .binOp .lss 2 (.tmp 16) (.const (.int .i64 0)) 2⟩,
        ⟨some 18, .none, true, 4, .pick (.tmp 15) (.const (.bool true)) (.tmp 17)⟩,
        ⟨some 19, .none, true, 4, .move (.tmp 18)⟩,
        ⟨some 20, .some 19 false, true, 2, .move (.tmp 4)⟩,
        ⟨some 21, .some 19 false, true, 4, .binOp .gtr 2 (.tmp 20) (.const (.int .i64 4294967295)) 2⟩,
        ⟨some 22, .none, true, 4, .pick (.tmp 19) (.const (.bool true)) (.tmp 21)⟩,
        ⟨some 23, .none, true, 4, .move (.tmp 22)⟩,
        ⟨some 24, .some 23 false, true, 2, .move (.tmp 5)⟩,
        ⟨some 25, .some 23 false, true, 4, .binOp .lss 2 (.tmp 24) (.const (.int .i64 0)) 2⟩,
        ⟨some 26, .none, true, 4, .pick (.tmp 23) (.const (.bool true)) (.tmp 25)⟩,
        ⟨some 27, .none, true, 4, .move (.tmp 26)⟩,
        ⟨some 28, .some 27 false, true, 2, .move (.tmp 5)⟩,
        ⟨some 29, .some 27 false, true, 4, .binOp .gtr 2 (.tmp 28) (.const (.int .i64 4294967295)) 2⟩,
        ⟨some 30, .none, true, 4, .pick (.tmp 27) (.const (.bool true)) (.tmp 29)⟩])
    (.keep [4, 5, 30]
    (.cond (.tmp 30)
      (.seq
        (.region [⟨some 2, .none, true, 34, .assign (.const (.int .u64 0))⟩,
          ⟨some 3, .none, true, 4, .assign (.const (.bool false))⟩])
      .ret)
      .skip)))
  (.seq
    (.region [⟨some 31, .none, true, 2, .move (.tmp 5)⟩,
      ⟨some 32, .none, true, 34, .convert 2 34 (.tmp 31)⟩,
      ⟨some 33, .none, true, 34, .binOp .shl 34 (.tmp 32) (.const (.int .u64 32)) 33⟩,
      ⟨some 34, .none, true, 2, .move (.tmp 4)⟩,
      ⟨some 35, .none, true, 34, .convert 2 34 (.tmp 34)⟩,
      ⟨some 36, .none, true, 34, .binOp .or 34 (.tmp 33) (.tmp 35) 34⟩,
      ⟨some 2, .none, true, 34, .assign (.tmp 36)⟩,
      ⟨some 3, .none, true, 4, .assign (.const (.bool true))⟩])
  .ret))))))
theorem t_gauss_Word : FnT Try.prog f_gauss_Word rc_gauss_Word [.tmp 2, .tmp 3] 1 := ⟨⟨[], Try.f23, _, Try.func23, rfl, by kernel_rfl, by kernel_rfl, by kernel_rfl, rfl, by decide⟩, by kernel_rfl⟩
/-- reeve/gauss.Add -/
abbrev f_gauss_Add : FuncId := 24
def rc_gauss_Add : RCode :=
  (.seq
    (.region [⟨some 4, .none, true, 23, .assign (.const (.complex .f64 0 0))⟩,
      ⟨some 5, .none, true, 4, .assign (.const (.bool false))⟩])
  (.keep [0, 1]
  (.seq
    (.seq
      (.region [⟨some 12, .none, true, 23, .move (.tmp 0)⟩,
        ⟨some 13, .none, true, 4, .call { callee := .value (.func 19), args := #[.tmp 12], argTypes := #[23] }⟩,
        ⟨some 14, .none, true, 4, .unOp .not 4 (.tmp 13)⟩,
        ⟨some 15, .none, true, 4, .move (.tmp 14)⟩,
        ⟨some 16, .some 15 false, true, 23, .move (.tmp 1)⟩,
        ⟨some 17, .some 15 false, true, 4, .call { callee := .value (.func 19), args := #[.tmp 16], argTypes := #[23] }⟩,
        ⟨some 18, .some 15 false, true, 4, .unOp .not 4 (.tmp 17)⟩,
        ⟨some 19, .none, true, 4, .pick (.tmp 15) (.const (.bool true)) (.tmp 18)⟩])
    (.keep [0, 1, 19]
    (.cond (.tmp 19)
      (.seq
        (.region [⟨some 4, .none, true, 23, .assign (.const (.complex .f64 0 0))⟩,
          ⟨some 5, .none, true, 4, .assign (.const (.bool false))⟩])
      .ret)
      .skip)))
  (.seq
    (.region [⟨some 21, .none, true, 23, .move (.tmp 0)⟩,
      ⟨some 22, .none, true, 37, .call { callee := .value (.func 21), args := #[.tmp 21], argTypes := #[23] }⟩,
      ⟨some 20, .none, true, 37, .move (.tmp 22)⟩,
      ⟨some 23, .none, true, 2, .extract (.tmp 20) 0⟩,
      ⟨some 24, .none, true, 2, .extract (.tmp 20) 1⟩,
      ⟨some 25, .none, true, 4, .extract (.tmp 20) 2⟩,
      ⟨some 6, .none, true, 2, .assign (.tmp 23)⟩,
      ⟨some 7, .none, true, 2, .assign (.tmp 24)⟩,
      ⟨some 8, .none, true, 4, .assign (.tmp 25)⟩])
  (.keep [1, 6, 7]
  (.seq
    (.region [⟨some 27, .none, true, 23, .move (.tmp 1)⟩,
      ⟨some 28, .none, true, 37, .call { callee := .value (.func 21), args := #[.tmp 27], argTypes := #[23] }⟩,
      ⟨some 26, .none, true, 37, .move (.tmp 28)⟩,
      ⟨some 29, .none, true, 2, .extract (.tmp 26) 0⟩,
      ⟨some 30, .none, true, 2, .extract (.tmp 26) 1⟩,
      ⟨some 31, .none, true, 4, .extract (.tmp 26) 2⟩,
      ⟨some 9, .none, true, 2, .assign (.tmp 29)⟩,
      ⟨some 10, .none, true, 2, .assign (.tmp 30)⟩,
      ⟨some 11, .none, true, 4, .assign (.tmp 31)⟩])
  (.keep [6, 7, 9, 10]
  (.seq
    (.region [⟨some 32, .none, true, 2, .move (.tmp 6)⟩,
      ⟨some 33, .none, true, 2, .move (.tmp 9)⟩,
      ⟨some 34, .none, true, 2, .binOp .add 2 (.tmp 32) (.tmp 33) 2⟩,
      ⟨some 35, .none, true, 2, .move (.tmp 7)⟩,
      ⟨some 36, .none, true, 2, .move (.tmp 10)⟩,
      ⟨some 37, .none, true, 2, .binOp .add 2 (.tmp 35) (.tmp 36) 2⟩,
      ⟨some 38, .none, true, 24, .call { callee := .value (.func 15), args := #[.tmp 34, .tmp 37], argTypes := #[2, 2] }⟩,
      ⟨some 39, .none, true, 23, .extract (.tmp 38) 0⟩,
      ⟨some 40, .none, true, 4, .extract (.tmp 38) 1⟩,
      ⟨some 4, .none, true, 23, .assign (.tmp 39)⟩,
      ⟨some 5, .none, true, 4, .assign (.tmp 40)⟩])
  .ret))))))))
theorem t_gauss_Add : FnT Try.prog f_gauss_Add rc_gauss_Add [.tmp 4, .tmp 5] 2 := ⟨⟨[], Try.f24, _, Try.func24, rfl, by kernel_rfl, by kernel_rfl, by kernel_rfl, rfl, by decide⟩, by kernel_rfl⟩
/-- reeve/gauss.Norm -/
abbrev f_gauss_Norm : FuncId := 25
def rc_gauss_Norm : RCode :=
  (.seq
    (.region [⟨some 2, .none, true, 2, .assign (.const (.int .i64 0))⟩])
  (.keep [0]
  (.seq
    (.region [⟨some 7, .none, true, 23, .move (.tmp 0)⟩,
      ⟨some 8, .none, true, 37, .call { callee := .value (.func 21), args := #[.tmp 7], argTypes := #[23] }⟩,
      ⟨some 6, .none, true, 37, .move (.tmp 8)⟩,
      ⟨some 9, .none, true, 2, .extract (.tmp 6) 0⟩,
      ⟨some 10, .none, true, 2, .extract (.tmp 6) 1⟩,
      ⟨some 11, .none, true, 4, .extract (.tmp 6) 2⟩,
      ⟨some 3, .none, true, 2, .assign (.tmp 9)⟩,
      ⟨some 4, .none, true, 2, .assign (.tmp 10)⟩,
      ⟨some 5, .none, true, 4, .assign (.tmp 11)⟩])
  (.keep [3, 4, 5]
  (.seq
    (.seq
      (.region [⟨some 12, .none, true, 4, .move (.tmp 5)⟩,
        ⟨some 13, .none, true, 4, .unOp .not 4 (.tmp 12)⟩,
        ⟨some 14, .none, true, 4, .move (.tmp 13)⟩,
        ⟨some 15, .some 14 false, true, 2, .move (.tmp 3)⟩,
        ⟨some 16, .some 14 false, true, 2, .move (.tmp 4)⟩,
        ⟨some 17, .some 14 false, true, 4, .call { callee := .value (.func 47), args := #[.tmp 15, .tmp 16], argTypes := #[2, 2] }⟩,
        ⟨some 18, .some 14 false, true, 4, .unOp .not 4 (.tmp 17)⟩,
        ⟨some 19, .none, true, 4, .pick (.tmp 14) (.const (.bool true)) (.tmp 18)⟩])
    (.keep [3, 4, 19]
    (.cond (.tmp 19)
      (.seq
        (.region [⟨some 2, .none, true, 2, .assign (.const (.int .i64 (-1)))⟩])
      .ret)
      .skip)))
  (.seq
    (.region [⟨some 20, .none, true, 2, .move (.tmp 3)⟩,
      ⟨some 21, .none, true, 2, .move (.tmp 3)⟩,
      ⟨some 22, .none, true, 2, .binOp .mul 2 (.tmp 20) (.tmp 21) 2⟩,
      ⟨some 23, .none, true, 2, .move (.tmp 4)⟩,
      ⟨some 24, .none, true, 2, .move (.tmp 4)⟩,
      ⟨some 25, .none, true, 2, .binOp .mul 2 (.tmp 23) (.tmp 24) 2⟩,
      ⟨some 26, .none, true, 2, .binOp .add 2 (.tmp 22) (.tmp 25) 2⟩,
      ⟨some 2, .none, true, 2, .assign (.tmp 26)⟩])
  .ret))))))
theorem t_gauss_Norm : FnT Try.prog f_gauss_Norm rc_gauss_Norm [.tmp 2] 1 := ⟨⟨[], Try.f25, _, Try.func25, rfl, by kernel_rfl, by kernel_rfl, by kernel_rfl, rfl, by decide⟩, by kernel_rfl⟩
/-- reeve/reeveref1.Add -/
abbrev f_reeveref1_Add : FuncId := 26
def rc_reeveref1_Add : RCode :=
  (.seq
    (.region [⟨some 4, .none, true, 23, .assign (.const (.complex .f64 0 0))⟩,
      ⟨some 5, .none, true, 4, .assign (.const (.bool false))⟩])
  (.keep [0, 1]
  (.seq
    (.region [⟨some 13, .none, true, 23, .move (.tmp 0)⟩,
      ⟨some 14, .none, true, 37, .call { callee := .value (.func 29), args := #[.tmp 13], argTypes := #[23] }⟩,
      ⟨some 12, .none, true, 37, .move (.tmp 14)⟩,
      ⟨some 15, .none, true, 2, .extract (.tmp 12) 0⟩,
      ⟨some 16, .none, true, 2, .extract (.tmp 12) 1⟩,
      ⟨some 17, .none, true, 4, .extract (.tmp 12) 2⟩,
      ⟨some 6, .none, true, 2, .assign (.tmp 15)⟩,
      ⟨some 7, .none, true, 2, .assign (.tmp 16)⟩,
      ⟨some 8, .none, true, 4, .assign (.tmp 17)⟩])
  (.keep [1, 6, 7, 8]
  (.seq
    (.region [⟨some 19, .none, true, 23, .move (.tmp 1)⟩,
      ⟨some 20, .none, true, 37, .call { callee := .value (.func 29), args := #[.tmp 19], argTypes := #[23] }⟩,
      ⟨some 18, .none, true, 37, .move (.tmp 20)⟩,
      ⟨some 21, .none, true, 2, .extract (.tmp 18) 0⟩,
      ⟨some 22, .none, true, 2, .extract (.tmp 18) 1⟩,
      ⟨some 23, .none, true, 4, .extract (.tmp 18) 2⟩,
      ⟨some 9, .none, true, 2, .assign (.tmp 21)⟩,
      ⟨some 10, .none, true, 2, .assign (.tmp 22)⟩,
      ⟨some 11, .none, true, 4, .assign (.tmp 23)⟩])
  (.keep [6, 7, 8, 9, 10, 11]
  (.seq
    (.seq
      (.region [⟨some 24, .none, true, 4, .move (.tmp 8)⟩,
        ⟨some 25, .none, true, 4, .unOp .not 4 (.tmp 24)⟩,
        ⟨some 26, .none, true, 4, .move (.tmp 25)⟩,
        ⟨some 27, .some 26 false, true, 4, .move (.tmp 11)⟩,
        ⟨some 28, .some 26 false, true, 4, .unOp .not 4 (.tmp 27)⟩,
        ⟨some 29, .none, true, 4, .pick (.tmp 26) (.const (.bool true)) (.tmp 28)⟩])
    (.keep [6, 7, 9, 10, 29]
    (.cond (.tmp 29)
      (.seq
        (.region [⟨some 4, .none, true, 23, .assign (.const (.complex .f64 0 0))⟩,
          ⟨some 5, .none, true, 4, .assign (.const (.bool false))⟩])
      .ret)
      .skip)))
  (.seq
    (.region [⟨some 30, .none, true, 2, .move (.tmp 6)⟩,
      ⟨some 31, .none, true, 2, .move (.tmp 9)⟩,
      ⟨some 32, .none, true, 2, .binOp .add 2 (.tmp 30) (.tmp 31) 2⟩,
      ⟨some 33, .none, true, 2, .move (.tmp 7)⟩,
      ⟨some 34, .none, true, 2, .move (.tmp 10)⟩,
      ⟨some 35, .none, true, 2, .binOp .add 2 (.tmp 33) (.tmp 34) 2⟩,
      ⟨some 36, .none, true, 24, .call { callee := .value (.func 28), args := #[.tmp 32, .tmp 35], argTypes := #[2, 2] }⟩,
      ⟨some 37, .none, true, 23, .extract (.tmp 36) 0⟩,
      ⟨some 38, .none, true, 4, .extract (.tmp 36) 1⟩,
      ⟨some 4, .none, true, 23, .assign (.tmp 37)⟩,
      ⟨some 5, .none, true, 4, .assign (.tmp 38)⟩])
  .ret))))))))
theorem t_reeveref1_Add : FnT Try.prog f_reeveref1_Add rc_reeveref1_Add [.tmp 4, .tmp 5] 2 := ⟨⟨[], Try.f26, _, Try.func26, rfl, by kernel_rfl, by kernel_rfl, by kernel_rfl, rfl, by decide⟩, by kernel_rfl⟩
/-- reeve/reeveref1.Mul -/
abbrev f_reeveref1_Mul : FuncId := 27
def rc_reeveref1_Mul : RCode :=
  (.seq
    (.region [⟨some 4, .none, true, 23, .assign (.const (.complex .f64 0 0))⟩,
      ⟨some 5, .none, true, 4, .assign (.const (.bool false))⟩])
  (.keep [0, 1]
  (.seq
    (.region [⟨some 13, .none, true, 23, .move (.tmp 0)⟩,
      ⟨some 14, .none, true, 37, .call { callee := .value (.func 29), args := #[.tmp 13], argTypes := #[23] }⟩,
      ⟨some 12, .none, true, 37, .move (.tmp 14)⟩,
      ⟨some 15, .none, true, 2, .extract (.tmp 12) 0⟩,
      ⟨some 16, .none, true, 2, .extract (.tmp 12) 1⟩,
      ⟨some 17, .none, true, 4, .extract (.tmp 12) 2⟩,
      ⟨some 6, .none, true, 2, .assign (.tmp 15)⟩,
      ⟨some 7, .none, true, 2, .assign (.tmp 16)⟩,
      ⟨some 8, .none, true, 4, .assign (.tmp 17)⟩])
  (.keep [1, 6, 7, 8]
  (.seq
    (.region [⟨some 19, .none, true, 23, .move (.tmp 1)⟩,
      ⟨some 20, .none, true, 37, .call { callee := .value (.func 29), args := #[.tmp 19], argTypes := #[23] }⟩,
      ⟨some 18, .none, true, 37, .move (.tmp 20)⟩,
      ⟨some 21, .none, true, 2, .extract (.tmp 18) 0⟩,
      ⟨some 22, .none, true, 2, .extract (.tmp 18) 1⟩,
      ⟨some 23, .none, true, 4, .extract (.tmp 18) 2⟩,
      ⟨some 9, .none, true, 2, .assign (.tmp 21)⟩,
      ⟨some 10, .none, true, 2, .assign (.tmp 22)⟩,
      ⟨some 11, .none, true, 4, .assign (.tmp 23)⟩])
  (.keep [6, 7, 8, 9, 10, 11]
  (.seq
    (.seq
      (.region [⟨some 24, .none, true, 4, .move (.tmp 8)⟩,
        ⟨some 25, .none, true, 4, .unOp .not 4 (.tmp 24)⟩,
        ⟨some 26, .none, true, 4, .move (.tmp 25)⟩,
        ⟨some 27, .some 26 false, true, 4, .move (.tmp 11)⟩,
        ⟨some 28, .some 26 false, true, 4, .unOp .not 4 (.tmp 27)⟩,
        ⟨some 29, .none, true, 4, .pick (.tmp 26) (.const (.bool true)) (.tmp 28)⟩,
        ⟨some 30, .none, true, 4, .move (.tmp 29)⟩,
        ⟨some 31, .some 30 false, true, 2, .move (.tmp 6)⟩,
        ⟨some 32, .some 30 false, true, 4, .call { callee := .value (.func 50), args := #[.tmp 31], argTypes := #[2] }⟩,
        ⟨some 33, .some 30 false, true, 4, .unOp .not 4 (.tmp 32)⟩,
        ⟨some 34, .none, true, 4, .pick (.tmp 30) (.const (.bool true)) (.tmp 33)⟩,
        ⟨some 35, .none, true, 4, .move (.tmp 34)⟩,
        ⟨some 36, .some 35 false, true, 2, .move (.tmp 7)⟩,
        ⟨some 37, .some 35 false, true, 4, .call { callee := .value (.func 50), args := #[.tmp 36], argTypes := #[2] }⟩,
        ⟨some 38, .some 35 false, true, 4, .unOp .not 4 (.tmp 37)⟩,
        ⟨some 39, .none, true, 4, .pick (.tmp 35) (.const (.bool true)) (.tmp 38)⟩,
        ⟨some 40, .none, true, 4, .move (.tmp 39)⟩,
        ⟨some 41, .some 40 false, true, 2, .move (.tmp 9)⟩,
        ⟨some 42, .some 40 false, true, 4, .call { callee := .value (.func 50), args := #[.tmp 41], argTypes := #[2] }⟩,
        ⟨some 43, .some 40 false, true, 4, .unOp .not 4 (.tmp 42)⟩,
        ⟨some 44, .none, true, 4, .pick (.tmp 40) (.const (.bool true)) (.tmp 43)⟩,
        ⟨some 45, .none, true, 4, .move (.tmp 44)⟩,
        ⟨some 46, .some 45 false, true, 2, .move (.tmp 10)⟩,
        ⟨some 47, .some 45 false, true, 4, .call { callee := .value (.func 50), args := #[.tmp 46], argTypes := #[2] }⟩,
        ⟨some 48, .some 45 false, true, 4, .unOp .not 4 (.tmp 47)⟩,
        ⟨some 49, .none, true, 4, .pick (.tmp 45) (.const (.bool true)) (.tmp 48)⟩])
    (.keep [6, 7, 9, 10, 49]
    (.cond (.tmp 49)
      (.seq
        (.region [⟨some 4, .none, true, 23, .assign (.const (.complex .f64 0 0))⟩,
          ⟨some 5, .none, true, 4, .assign (.const (.bool false))⟩])
      .ret)
      .skip)))
  (.seq
    (.region [⟨some 50, .none, true, 2, .move (.tmp 6)⟩,
      ⟨some 51, .none, true, 2, .move (.tmp 9)⟩,
      ⟨some 52, .none, true, 2, .binOp .mul 2 (.tmp 50) (.tmp 51) 2⟩,
      ⟨some 53, .none, true, 2, .move (.tmp 7)⟩,
      ⟨some 54, .none, true, 2, .move (.tmp 10)⟩,
      ⟨some 55, .none, true, 2, .binOp .mul 2 (.tmp 53) (.tmp 54) 2⟩,
      ⟨some 56, .none, true, 2, .binOp .sub 2 (.tmp 52) (.tmp 55) 2⟩,
      ⟨some 57, .none, true, 2, .move (.tmp 6)⟩,
      ⟨some 58, .none, true, 2, .move (.tmp 10)⟩,
      ⟨some 59, .none, true, 2, .binOp .mul 2 (.tmp 57) (.tmp 58) 2⟩,
      ⟨some 60, .none, true, 2, .move (.tmp 7)⟩,
      ⟨some 61, .none, true, 2, .move (.tmp 9)⟩,
      ⟨some 62, .none, true, 2, .binOp .mul 2 (.tmp 60) (.tmp 61) 2⟩,
      ⟨some 63, .none, true, 2, .binOp .add 2 (.tmp 59) (.tmp 62) 2⟩,
      ⟨some 64, .none, true, 24, .call { callee := .value (.func 28), args := #[.tmp 56, .tmp 63], argTypes := #[2, 2] }⟩,
      ⟨some 65, .none, true, 23, .extract (.tmp 64) 0⟩,
      ⟨some 66, .none, true, 4, .extract (.tmp 64) 1⟩,
      ⟨some 4, .none, true, 23, .assign (.tmp 65)⟩,
      ⟨some 5, .none, true, 4, .assign (.tmp 66)⟩])
  .ret))))))))
theorem t_reeveref1_Mul : FnT Try.prog f_reeveref1_Mul rc_reeveref1_Mul [.tmp 4, .tmp 5] 2 := ⟨⟨[], Try.f27, _, Try.func27, rfl, by kernel_rfl, by kernel_rfl, by kernel_rfl, rfl, by decide⟩, by kernel_rfl⟩
/-- reeve/reeveref1.Of -/
abbrev f_reeveref1_Of : FuncId := 28
def rc_reeveref1_Of : RCode :=
  (.seq
    (.region [⟨some 4, .none, true, 23, .assign (.const (.complex .f64 0 0))⟩,
      ⟨some 5, .none, true, 4, .assign (.const (.bool false))⟩])
  (.keep [0, 1]
  (.seq
    (.seq
      (.region [⟨some 6, .none, true, 2, .move (.tmp 0)⟩,
        ⟨some 7, .none, true, 4, .binOp .lss 2 (.tmp 6) (.const (.int .i64 (-1099511627776))) 2⟩,
        ⟨some 8, .none, true, 4, .move (.tmp 7)⟩,
        ⟨some 9, .some 8 false, true, 2, .move (.tmp 0)⟩,
        ⟨some 10, .some 8 false, true, 4, .binOp .gtr 2 (.tmp 9) (.const (.int .i64 1099511627776)) 2⟩,
        ⟨some 11, .none, true, 4, .pick (.tmp 8) (.const (.bool true)) (.tmp 10)⟩,
        ⟨some 12, .none, true, 4, .move (.tmp 11)⟩,
        ⟨some 13, .some 12 false, true, 2, .move (.tmp 1)⟩,
        ⟨some 14, .some 12 false, true, 4, .binOp .lss 2 (.tmp 13) (.const (.int .i64 (-1099511627776))) 2⟩,
        ⟨some 15, .none, true, 4, .pick (.tmp 12) (.const (.bool true)) (.tmp 14)⟩,
        ⟨some 16, .none, true, 4, .move (.tmp 15)⟩,
        ⟨some 17, .some 16 false, true, 2, .move (.tmp 1)⟩,
        ⟨some 18, .some 16 false, true, 4, .binOp .gtr 2 (.tmp 17) (.const (.int .i64 1099511627776)) 2⟩,
        ⟨some 19, .none, true, 4, .pick (.tmp 16) (.const (.bool true)) (.tmp 18)⟩])
    (.keep [0, 1, 19]
    (.cond (.tmp 19)
      (.seq
        (.region [⟨some 4, .none, true, 23, .assign (.const (.complex .f64 0 0))⟩,
          ⟨some 5, .none, true, 4, .assign (.const (.bool false))⟩])
      .ret)
      .skip)))
  (.seq
    (.region [⟨some 20, .none, true, 2, .move (.tmp 0)⟩,
      ⟨some 21, .none, true, 48, .convert 2 48 (.tmp 20)⟩,
      ⟨some 22, .none, true, 2, .move (.tmp 1)⟩,
      ⟨some 23, .none, true, 48, .convert 2 48 (.tmp 22)⟩,
      ⟨some 24, .none, true, 23, .call { callee := .builtin .complex, args := #[.tmp 21, .tmp 23], argTypes := #[48, 48] }⟩,
      ⟨some 4, .none, true, 23, .assign (.tmp 24)⟩,
      ⟨some 5, .none, true, 4, .assign (.const (.bool true))⟩])
  .ret))))
theorem t_reeveref1_Of : FnT Try.prog f_reeveref1_Of rc_reeveref1_Of [.tmp 4, .tmp 5] 2 := ⟨⟨[], Try.f28, _, Try.func28, rfl, by kernel_rfl, by kernel_rfl, by kernel_rfl, rfl, by decide⟩, by kernel_rfl⟩
/-- reeve/reeveref1.Parts -/
abbrev f_reeveref1_Parts : FuncId := 29
def rc_reeveref1_Parts : RCode :=
  (.seq
    (.region [⟨some 2, .none, true, 2, .assign (.const (.int .i64 0))⟩,
      ⟨some 3, .none, true, 2, .assign (.const (.int .i64 0))⟩,
      ⟨some 4, .none, true, 4, .assign (.const (.bool false))⟩])
  (.keep [0]
  (.seq
    (.region [⟨some 10, .none, true, 23, .move (.tmp 0)⟩,
      ⟨some 11, .none, true, 48, .call { callee := .builtin .real, args := #[.tmp 10], argTypes := #[23] }⟩,
      ⟨some 12, .none, true, 77, .call { callee := .value (.func 51), args := #[.tmp 11], argTypes := #[48] }⟩,
      ⟨some 9, .none, true, 77, .move (.tmp 12)⟩,
      ⟨some 13, .none, true, 2, .extract (.tmp 9) 0⟩,
      ⟨some 14, .none, true, 4, .extract (.tmp 9) 1⟩,
      ⟨some 5, .none, true, 2, .assign (.tmp 13)⟩,
      ⟨some 6, .none, true, 4, .assign (.tmp 14)⟩])
  (.keep [0, 5, 6]
  (.seq
    (.region [⟨some 16, .none, true, 23, .move (.tmp 0)⟩,
      ⟨some 17, .none, true, 48, .call { callee := .builtin .imag, args := #[.tmp 16], argTypes := #[23] }⟩,
      ⟨some 18, .none, true, 77, .call { callee := .value (.func 51), args := #[.tmp 17], argTypes := #[48] }⟩,
      ⟨some 15, .none, true, 77, .move (.tmp 18)⟩,
      ⟨some 19, .none, true, 2, .extract (.tmp 15) 0⟩,
      ⟨some 20, .none, true, 4, .extract (.tmp 15) 1⟩,
      ⟨some 7, .none, true, 2, .assign (.tmp 19)⟩,
      ⟨some 8, .none, true, 4, .assign (.tmp 20)⟩])
  (.keep [5, 6, 7, 8]
  (.seq
    (.seq
      (.region [⟨some 21, .none, true, 4, .move (.tmp 6)⟩,
        ⟨some 22, .none, true, 4, .unOp .not 4 (.tmp 21)⟩,
        ⟨some 23, .none, true, 4, .move (.tmp 22)⟩,
        ⟨some 24, .some 23 false, true, 4, .move (.tmp 8)⟩,
        ⟨some 25, .some 23 false, true, 4, .unOp .not 4 (.tmp 24)⟩,
        ⟨some 26, .none, true, 4, .pick (.tmp 23) (.const (.bool true)) (.tmp 25)⟩])
    (.keep [5, 7, 26]
    (.cond (.tmp 26)
      (.seq
        (.region [⟨some 2, .none, true, 2, .assign (.const (.int .i64 0))⟩,
          ⟨some 3, .none, true, 2, .assign (.const (.int .i64 0))⟩,
          ⟨some 4, .none, true, 4, .assign (.const (.bool false))⟩])
      .ret)
      .skip)))
  (.seq
    (.region [⟨some 27, .none, true, 2, .move (.tmp 5)⟩,
      ⟨some 28, .none, true, 2, .move (.tmp 7)⟩,
      ⟨some 2, .none, true, 2, .assign (.tmp 27)⟩,
      ⟨some 3, .none, true, 2, .assign (.tmp 28)⟩,
      ⟨some 4, .none, true, 4, .assign (.const (.bool true))⟩])
  .ret))))))))
theorem t_reeveref1_Parts : FnT Try.prog f_reeveref1_Parts rc_reeveref1_Parts [.tmp 2, .tmp 3, .tmp 4] 1 := ⟨⟨[], Try.f29, _, Try.func29, rfl, by kernel_rfl, by kernel_rfl, by kernel_rfl, rfl, by decide⟩, by kernel_rfl⟩
/-- reeve/reeveref1.Word -/
abbrev f_reeveref1_Word : FuncId := 30
def rc_reeveref1_Word : RCode :=
  (.seq
    (.region [⟨some 2, .none, true, 34, .assign (.const (.int .u64 0))⟩,
      ⟨some 3, .none, true, 4, .assign (.const (.bool false))⟩])
  (.keep [0]
  (.seq
    (.region [⟨some 8, .none, true, 23, .move (.tmp 0)⟩,
      ⟨some 9, .none, true, 37, .call { callee := .value (.func 29), args := #[.tmp 8], argTypes := #[23] }⟩,
      ⟨some 7, .none, true, 37, .move (.tmp 9)⟩,
      ⟨some 10, .none, true, 2, .extract (.tmp 7) 0⟩,
      ⟨some 11, .none, true, 2, .extract (.tmp 7) 1⟩,
      ⟨some 12, .none, true, 4, .extract (.tmp 7) 2⟩,
      ⟨some 4, .none, true, 2, .assign (.tmp 10)⟩,
      ⟨some 5, .none, true, 2, .assign (.tmp 11)⟩,
      ⟨some 6, .none, true, 4, .assign (.tmp 12)⟩])
  (.keep [4, 5, 6]
  (.seq
    (.seq
      (.region [⟨some 13, .none, true, 4, .move (.tmp 6)⟩,
        ⟨some 14, .none, true, 4, .unOp .not 4 (.tmp 13)⟩,
        ⟨some 15, .none, true, 4, .move (.tmp 14)⟩,
        ⟨some 16, .some 15 false, true, 2, .move (.tmp 4)⟩,
        ⟨some 17, .some 15 false, true, 4, .binOp .lss 2 (.tmp 16) (.const (.int .i64 0)) 2⟩,
        ⟨some 18, .none, true, 4, .pick (.tmp 15) (.const (.bool true)) (.tmp 17)⟩,
        ⟨some 19, .none, true, 4, .move (.tmp 18)⟩,
        ⟨some 20, .some 19 false, true, 2, .move (.tmp 5)⟩,
        ⟨some 21, .some 19 false, true, 4, .binOp .lss 2 (.tmp 20) (.const (.int .i64 0)) 2⟩,
        ⟨some 22, .none, true, 4, .pick (.tmp 19) (.const (.bool true)) (.tmp 21)⟩,
        ⟨some 23, .none, true, 4, .move (.tmp 22)⟩,
        ⟨some 24, .some 23 false, true, 2, .move (.tmp 4)⟩,
        ⟨some 25, .some 23 false, true, 4, .binOp .geq 2 (.tmp 24) (.const (.int .i64 4294967296)) 2⟩,
        ⟨some 26, .none, true, 4, .pick (.tmp 23) (.const (.bool true)) (.tmp 25)⟩,
        ⟨some 27, .none, true, 4, .move (.tmp 26)⟩,
        ⟨some 28, .some 27 false, true, 2, .move (.tmp 5)⟩,
        ⟨some 29, .some 27 false, true, 4, .binOp .geq 2 (.tmp 28) (.const (.int .i64 4294967296)) 2⟩,
        ⟨some 30, .none, true, 4, .pick (.tmp 27) (.const (.bool true)) (.tmp 29)⟩])
    (.keep [4, 5, 30]
    (.cond (.tmp 30)
      (.seq
        (.region [⟨some 2, .none, true, 34, .assign (.const (.int .u64 0))⟩,
          ⟨some 3, .none, true, 4, .assign (.const (.bool false))⟩])
      .ret)
      .skip)))
  (.seq
    (.region [⟨some 31, .none, true, 2, .move (.tmp 5)⟩,
      ⟨some 32, .none, true, 34, .convert 2 34 (.tmp 31)⟩,
      ⟨some 33, .none, true, 34, .binOp .mul 34 (.tmp 32) (.const (.int .u64 4294967296)) 34⟩,
      ⟨some 34, .none, true, 2, .move (.tmp 4)⟩,
      ⟨some 35, .none, true, 34, .convert 2 34 (.tmp 34)⟩,
      ⟨some 36, .none, true, 34, .binOp .add 34 (.tmp 33) (.tmp 35) 34⟩,
      ⟨some 2, .none, true, 34, .assign (.tmp 36)⟩,
      ⟨some 3, .none, true, 4, .assign (.const (.bool true))⟩])
  .ret))))))
theorem t_reeveref1_Word : FnT Try.prog f_reeveref1_Word rc_reeveref1_Word [.tmp 2, .tmp 3] 1 := ⟨⟨[], Try.f30, _, Try.func30, rfl, by kernel_rfl, by kernel_rfl, by kernel_rfl, rfl, by decide⟩, by kernel_rfl⟩
/-- reeve/reeveref1.Turn -/
abbrev f_reeveref1_Turn : FuncId := 31
def rc_reeveref1_Turn : RCode :=
  (.seq
    (.region [⟨some 4, .none, true, 23, .assign (.const (.complex .f64 0 0))⟩])
  (.keep [0, 1]
  (.seq
    (.region [⟨some 11, .none, true, 23, .move (.tmp 0)⟩,
      ⟨some 12, .none, true, 37, .call { callee := .value (.func 29), args := #[.tmp 11], argTypes := #[23] }⟩,
      ⟨some 10, .none, true, 37, .move (.tmp 12)⟩,
      ⟨some 13, .none, true, 2, .extract (.tmp 10) 0⟩,
      ⟨some 14, .none, true, 2, .extract (.tmp 10) 1⟩,
      ⟨some 15, .none, true, 4, .extract (.tmp 10) 2⟩,
      ⟨some 5, .none, true, 2, .assign (.tmp 13)⟩,
      ⟨some 6, .none, true, 2, .assign (.tmp 14)⟩,
      ⟨some 7, .none, true, 4, .assign (.tmp 15)⟩])
  (.keep [1, 5, 6, 7]
  (.seq
    (.seq
      (.region [⟨some 16, .none, true, 4, .move (.tmp 7)⟩,
        ⟨some 17, .none, true, 4, .unOp .not 4 (.tmp 16)⟩])
    (.keep [1, 5, 6, 17]
    (.cond (.tmp 17)
      (.seq
        (.region [⟨some 4, .none, true, 23, .assign (.const (.complex .f64 0 0))⟩])
      .ret)
      .skip)))
  (.seq
    (.seq
      (.region [⟨some 18, .none, true, 3, .move (.tmp 1)⟩,
        ⟨some 19, .none, true, 3, .binOp .and 3 (.tmp 18) (.const (.int .i64 3)) 3⟩])
    (.keep [5, 6, 19]
    (.block 0
      (.seq
        (.region [⟨some 21, .none, true, 4, .binOp .eql 3 (.tmp 19) (.const (.int .i64 1)) 3⟩,
          ⟨some 20, .none, true, 4, .assign (.tmp 21)⟩])
      (.keep [5, 6, 19, 20]
      (.cond (.tmp 20)
        (.region [⟨some 22, .none, true, 2, .move (.tmp 6)⟩,
          ⟨some 23, .none, true, 2, .unOp .neg 2 (.tmp 22)⟩,
          ⟨some 24, .none, true, 2, .move (.tmp 5)⟩,
          ⟨some 5, .none, true, 2, .assign (.tmp 23)⟩,
          ⟨some 6, .none, true, 2, .assign (.tmp 24)⟩])
        (.seq
          (.region [⟨some 26, .none, true, 4, .binOp .eql 3 (.tmp 19) (.const (.int .i64 2)) 3⟩,
            ⟨some 25, .none, true, 4, .assign (.tmp 26)⟩])
        (.keep [5, 6, 19, 25]
        (.cond (.tmp 25)
          (.region [⟨some 27, .none, true, 2, .move (.tmp 5)⟩,
            ⟨some 28, .none, true, 2, .unOp .neg 2 (.tmp 27)⟩,
            ⟨some 29, .none, true, 2, .move (.tmp 6)⟩,
            ⟨some 30, .none, true, 2, .unOp .neg 2 (.tmp 29)⟩,
            ⟨some 5, .none, true, 2, .assign (.tmp 28)⟩,
            ⟨some 6, .none, true, 2, .assign (.tmp 30)⟩])
          (.seq
            (.region [⟨some 32, .none, true, 4, .binOp .eql 3 (.tmp 19) (.const (.int .i64 3)) 3⟩,
              ⟨some 31, .none, true, 4, .assign (.tmp 32)⟩])
          (.keep [5, 6, 31]
          (.cond (.tmp 31)
            (.region [⟨some 33, .none, true, 2, .move (.tmp 6)⟩,
              ⟨some 34, .none, true, 2, .move (.tmp 5)⟩,
              ⟨some 35, .none, true, 2, .unOp .neg 2 (.tmp 34)⟩,
              ⟨some 5, .none, true, 2, .assign (.tmp 33)⟩,
              ⟨some 6, .none, true, 2, .assign (.tmp 35)⟩])
            .skip))))))))))))
  (.seq
    (.region [⟨some 37, .none, true, 2, .move (.tmp 5)⟩,
      ⟨some 38, .none, true, 2, .move (.tmp 6)⟩,
      ⟨some 39, .none, true, 24, .call { callee := .value (.func 28), args := #[.tmp 37, .tmp 38], argTypes := #[2, 2] }⟩,
      ⟨some 36, .none, true, 24, .move (.tmp 39)⟩,
      ⟨some 40, .none, true, 23, .extract (.tmp 36) 0⟩,
      ⟨some 41, .none, true, 4, .extract (.tmp 36) 1⟩,
      ⟨some 8, .none, true, 23, .assign (.tmp 40)⟩,
      ⟨some 9, .none, true, 4, .assign (.tmp 41)⟩])
  (.keep [8]
  (.seq
    (.region [⟨some 42, .none, true, 23, .move (.tmp 8)⟩,
      ⟨some 4, .none, true, 23, .assign (.tmp 42)⟩])
  .ret)))))))))
theorem t_reeveref1_Turn : FnT Try.prog f_reeveref1_Turn rc_reeveref1_Turn [.tmp 4] 2 := ⟨⟨[], Try.f31, _, Try.func31, rfl, by kernel_rfl, by kernel_rfl, by kernel_rfl, rfl, by decide⟩, by kernel_rfl⟩
/-- reeve/reeveref1.Norm -/
abbrev f_reeveref1_Norm : FuncId := 32
def rc_reeveref1_Norm : RCode :=
  (.seq
    (.region [⟨some 2, .none, true, 2, .assign (.const (.int .i64 0))⟩])
  (.keep [0]
  (.seq
    (.region [⟨some 7, .none, true, 23, .move (.tmp 0)⟩,
      ⟨some 8, .none, true, 37, .call { callee := .value (.func 29), args := #[.tmp 7], argTypes := #[23] }⟩,
      ⟨some 6, .none, true, 37, .move (.tmp 8)⟩,
      ⟨some 9, .none, true, 2, .extract (.tmp 6) 0⟩,
      ⟨some 10, .none, true, 2, .extract (.tmp 6) 1⟩,
      ⟨some 11, .none, true, 4, .extract (.tmp 6) 2⟩,
      ⟨some 3, .none, true, 2, .assign (.tmp 9)⟩,
      ⟨some 4, .none, true, 2, .assign (.tmp 10)⟩,
      ⟨some 5, .none, true, 4, .assign (.tmp 11)⟩])
  (.keep [3, 4, 5]
  (.seq
    (.seq
      (.region [⟨some 12, .none, true, 4, .move (.tmp 5)⟩,
        ⟨some 13, .none, true, 4, .unOp .not 4 (.tmp 12)⟩,
        ⟨some 14, .none, true, 4, .move (.tmp 13)⟩,
        ⟨some 15, .some 14 false, true, 2, .move (.tmp 3)⟩,
        ⟨some 16, .some 14 false, true, 4, .call { callee := .value (.func 50), args := #[.tmp 15], argTypes := #[2] }⟩,
        ⟨some 17, .some 14 false, true, 4, .unOp .not 4 (.tmp 16)⟩,
        ⟨some 18, .none, true, 4, .pick (.tmp 14) (.const (.bool true)) (.tmp 17)⟩,
        ⟨some 19, .none, true, 4, .move (.tmp 18)⟩,
        ⟨some 20, .some 19 false, true, 2, .move (.tmp 4)⟩,
        ⟨some 21, .some 19 false, true, 4, .call { callee := .value (.func 50), args := #[.tmp 20], argTypes := #[2] }⟩,
        ⟨some 22, .some 19 false, true, 4, .unOp .not 4 (.tmp 21)⟩,
        ⟨some 23, .none, true, 4, .pick (.tmp 19) (.const (.bool true)) (.tmp 22)⟩])
    (.keep [3, 4, 23]
    (.cond (.tmp 23)
      (.seq
        (.region [⟨some 2, .none, true, 2, .assign (.const (.int .i64 (-1)))⟩])
      .ret)
      .skip)))
  (.seq
    (.region [⟨some 24, .none, true, 2, .move (.tmp 3)⟩,
      ⟨some 25, .none, true, 2, .move (.tmp 3)⟩,
      ⟨some 26, .none, true, 2, .binOp .mul 2 (.tmp 24) (.tmp 25) 2⟩,
      ⟨some 27, .none, true, 2, .move (.tmp 4)⟩,
      ⟨some 28, .none, true, 2, .move (.tmp 4)⟩,
      ⟨some 29, .none, true, 2, .binOp .mul 2 (.tmp 27) (.tmp 28) 2⟩,
      ⟨some 30, .none, true, 2, .binOp .add 2 (.tmp 26) (.tmp 29) 2⟩,
      ⟨some 2, .none, true, 2, .assign (.tmp 30)⟩])
  .ret))))))
theorem t_reeveref1_Norm : FnT Try.prog f_reeveref1_Norm rc_reeveref1_Norm [.tmp 2] 1 := ⟨⟨[], Try.f32, _, Try.func32, rfl, by kernel_rfl, by kernel_rfl, by kernel_rfl, rfl, by decide⟩, by kernel_rfl⟩
/-- reeve/reeveref1.Spin -/
abbrev f_reeveref1_Spin : FuncId := 33
def rc_reeveref1_Spin : RCode :=
  (.seq
    (.region [⟨some 2, .none, true, 23, .assign (.const (.complex .f64 0 0))⟩])
  (.keep [0]
  (.seq
    (.region [⟨some 6, .none, true, 31, .move (.tmp 0)⟩,
      ⟨some 7, .none, true, 79, .call { callee := .value (.func 52), args := #[.tmp 6], argTypes := #[31] }⟩,
      ⟨some 5, .none, true, 79, .move (.tmp 7)⟩,
      ⟨some 8, .none, true, 2, .extract (.tmp 5) 0⟩,
      ⟨some 9, .none, true, 2, .extract (.tmp 5) 1⟩,
      ⟨some 3, .none, true, 2, .assign (.tmp 8)⟩,
      ⟨some 4, .none, true, 2, .assign (.tmp 9)⟩])
  (.keep [3, 4]
  (.seq
    (.region [⟨some 10, .none, true, 2, .move (.tmp 3)⟩,
      ⟨some 11, .none, true, 48, .convert 2 48 (.tmp 10)⟩,
      ⟨some 12, .none, true, 2, .move (.tmp 4)⟩,
      ⟨some 13, .none, true, 48, .convert 2 48 (.tmp 12)⟩,
      ⟨some 14, .none, true, 23, .call { callee := .builtin .complex, args := #[.tmp 11, .tmp 13], argTypes := #[48, 48] }⟩,
      ⟨some 2, .none, true, 23, .assign (.tmp 14)⟩])
  .ret)))))
theorem t_reeveref1_Spin : FnT Try.prog f_reeveref1_Spin rc_reeveref1_Spin [.tmp 2] 1 := ⟨⟨[], Try.f33, _, Try.func33, rfl, by kernel_rfl, by kernel_rfl, by kernel_rfl, rfl, by decide⟩, by kernel_rfl⟩
/-- reeve/gauss.in -/
abbrev f_gauss_in : FuncId := 46
def rc_gauss_in : RCode :=
  (.seq
    (.region [⟨some 2, .none, true, 4, .assign (.const (.bool false))⟩])
  (.keep [0]
  (.seq
    (.region [⟨some 3, .none, true, 2, .move (.tmp 0)⟩,
      ⟨some 4, .none, true, 4, .binOp .geq 2 (.tmp 3) (.const (.int .i64 (-1099511627776))) 2⟩,
      ⟨some 5, .none, true, 4, .move (.tmp 4)⟩,
      ⟨some 6, .some 5 true, true, 2, .move (.tmp 0)⟩,
      ⟨some 7, .some 5 true, true, 4, .binOp .leq 2 (.tmp 6) (.const (.int .i64 1099511627776)) 2⟩,
      ⟨some 8, .none, true, 4, .pick (.tmp 5) (.tmp 7) (.const (.bool false))⟩,
      ⟨some 2, .none, true, 4, .assign (.tmp 8)⟩])
  .ret)))
theorem t_gauss_in : FnT Try.prog f_gauss_in rc_gauss_in [.tmp 2] 1 := ⟨⟨[], Try.f46, _, Try.func46, rfl, by kernel_rfl, by kernel_rfl, by kernel_rfl, rfl, by decide⟩, by kernel_rfl⟩
/-- reeve/gauss.near -/
abbrev f_gauss_near : FuncId := 47
def rc_gauss_near : RCode :=
  (.seq
    (.region [⟨some 4, .none, true, 4, .assign (.const (.bool false))⟩])
  (.keep [0, 1]
  (.seq
    (.region [⟨some 5, .none, true, 2, .move (.tmp 0)⟩,
      ⟨some 6, .none, true, 2, .move (.tmp 0)⟩,
      ⟨some 7, .none, true, 2, .unOp .neg 2 (.tmp 6)⟩,
      ⟨some 8, .none, true, 2, .move (.tmp 1)⟩,
      ⟨some 9, .none, true, 2, .move (.tmp 1)⟩,
      ⟨some 10, .none, true, 2, .unOp .neg 2 (.tmp 9)⟩,
      ⟨some 11, .none, true, 2, .call { callee := .builtin .max, args := #[.tmp 5, .tmp 7, .tmp 8, .tmp 10], argTypes := #[2, 2, 2, 2] }⟩,
      ⟨some 12, .none, true, 4, .binOp .leq 2 (.tmp 11) (.const (.int .i64 1073741824)) 2⟩,
      ⟨some 4, .none, true, 4, .assign (.tmp 12)⟩])
  .ret)))
theorem t_gauss_near : FnT Try.prog f_gauss_near rc_gauss_near [.tmp 4] 2 := ⟨⟨[], Try.f47, _, Try.func47, rfl, by kernel_rfl, by kernel_rfl, by kernel_rfl, rfl, by decide⟩, by kernel_rfl⟩
/-- reeve/gauss.rest -/
abbrev f_gauss_rest : FuncId := 48
def rc_gauss_rest : RCode :=
  (.seq
    (.region [⟨some 2, .none, true, 2, .assign (.const (.int .i64 0))⟩])
  (.keep [0]
  (.seq
    (.region [⟨some 3, .none, true, 2, .move (.tmp 0)⟩,
      ⟨some 4, .none, true, 2, .binOp .rem 2 (.tmp 3) (.const (.int .i64 1000003)) 2⟩,
      ⟨some 5, .none, true, 2, .binOp .add 2 (.tmp 4) (.const (.int .i64 1000003)) 2⟩,
      ⟨some 6, .none, true, 2, .binOp .rem 2 (.tmp 5) (.const (.int .i64 1000003)) 2⟩,
      ⟨some 2, .none, true, 2, .assign (.tmp 6)⟩])
  .ret)))
theorem t_gauss_rest : FnT Try.prog f_gauss_rest rc_gauss_rest [.tmp 2] 1 := ⟨⟨[], Try.f48, _, Try.func48, rfl, by kernel_rfl, by kernel_rfl, by kernel_rfl, rfl, by decide⟩, by kernel_rfl⟩
/-- reeve/gauss.whole -/
abbrev f_gauss_whole : FuncId := 49
def rc_gauss_whole : RCode :=
  (.seq
    (.region [⟨some 2, .none, true, 2, .assign (.const (.int .i64 0))⟩,
      ⟨some 3, .none, true, 4, .assign (.const (.bool false))⟩])
  (.keep [0]
  (.seq
    (.seq
      (.region [⟨some 4, .none, true, 48, .move (.tmp 0)⟩,
        ⟨some 5, .none, true, 4, .binOp .geq 48 (.tmp 4) (.const (.float .f64 14010698440749613056)) 48⟩,
        ⟨some 6, .none, true, 4, .move (.tmp 5)⟩,
        ⟨some 7, .some 6 true, true, 48, .move (.tmp 0)⟩,
        ⟨some 8, .some 6 true, true, 4, .binOp .leq 48 (.tmp 7) (.const (.float .f64 4787326403894837248)) 48⟩,
        ⟨some 9, .none, true, 4, .pick (.tmp 6) (.tmp 8) (.const (.bool false))⟩,
        ⟨some 10, .none, true, 4, .unOp .not 4 (.tmp 9)⟩,
        ⟨some 11, .none, true, 4, .move (.tmp 10)⟩,
        ⟨some 12, .some 11 false, true, 48, .move (.tmp 0)⟩,
        ⟨some 13, .some 11 false, true, 48, .move (.tmp 0)⟩,
        ⟨some 14, .some 11 false, true, 48, .call { callee := .value (.func 59), args := #[.tmp 13], argTypes := #[48] }⟩,
        ⟨some 15, .some 11 false, true, 4, .binOp .neq 48 (.tmp 12) (.tmp 14) 48⟩,
        ⟨some 16, .none, true, 4, .pick (.tmp 11) (.const (.bool true)) (.tmp 15)⟩,
        ⟨some 17, .none, true, 4, .move (.tmp 16)⟩,
        ⟨some 18, .some 17 false, true, 48, .move (.tmp 0)⟩,
        ⟨some 19, .some 17 false, true, 4, .binOp .eql 48 (.tmp 18) (.const (.float .f64 0)) 48⟩,
        ⟨some 20, .some 17 false, true, 4, .move (.tmp 19)⟩,
        ⟨some 21, .some 20 true, true, 48, .move (.tmp 0)⟩,
        ⟨some 22, .some 20 true, true, 4, .call { callee := .value (.func 60), args := #[.tmp 21], argTypes := #[48] }⟩,
        ⟨some 23, .some 17 false, true, 4, .pick (.tmp 20) (.tmp 22) (.const (.bool false))⟩,
        ⟨some 24, .none, true, 4, .pick (.tmp 17) (.const (.bool true)) (.tmp 23)⟩])
    (.keep [0, 24]
    (.cond (.tmp 24)
      (.seq
        (.region [⟨some 2, .none, true, 2, .assign (.const (.int .i64 0))⟩,
          ⟨some 3, .none, true, 4, .assign (.const (.bool false))⟩])
      .ret)
      .skip)))
  (.seq
    (.region [⟨some 25, .none, true, 48, .move (.tmp 0)⟩,
      ⟨some 26, .none, true, 2, .convert 48 2 (.tmp 25)⟩,
      ⟨some 2, .none, true, 2, .assign (.tmp 26)⟩,
      ⟨some 3, .none, true, 4, .assign (.const (.bool true))⟩])
  .ret))))
theorem t_gauss_whole : FnT Try.prog f_gauss_whole rc_gauss_whole [.tmp 2, .tmp 3] 1 := ⟨⟨[], Try.f49, _, Try.func49, rfl, by kernel_rfl, by kernel_rfl, by kernel_rfl, rfl, by decide⟩, by kernel_rfl⟩
/-- reeve/reeveref1.small -/
abbrev f_reeveref1_small : FuncId := 50
def rc_reeveref1_small : RCode :=
  (.seq
    (.region [⟨some 2, .none, true, 4, .assign (.const (.bool false))⟩])
  (.keep [0]
  (.seq
    (.region [⟨some 3, .none, true, 2, .move (.tmp 0)⟩,
      ⟨some 4, .none, true, 4, .binOp .geq 2 (.tmp 3) (.const (.int .i64 (-1073741824))) 2⟩,
      ⟨some 5, .none, true, 4, .move (.tmp 4)⟩,
      ⟨some 6, .some 5 true, true, 2, .move (.tmp 0)⟩,
      ⟨some 7, .some 5 true, true, 4, .binOp .leq 2 (.tmp 6) (.const (.int .i64 1073741824)) 2⟩,
      ⟨some 8, .none, true, 4, .pick (.tmp 5) (.tmp 7) (.const (.bool false))⟩,
      ⟨some 2, .none, true, 4, .assign (.tmp 8)⟩])
  .ret)))
theorem t_reeveref1_small : FnT Try.prog f_reeveref1_small rc_reeveref1_small [.tmp 2] 1 := ⟨⟨[], Try.f50, _, Try.func50, rfl, by kernel_rfl, by kernel_rfl, by kernel_rfl, rfl, by decide⟩, by kernel_rfl⟩
/-- reeve/reeveref1.part -/
abbrev f_reeveref1_part : FuncId := 51
def rc_reeveref1_part : RCode :=
  (.seq
    (.region [⟨some 2, .none, true, 2, .assign (.const (.int .i64 0))⟩,
      ⟨some 3, .none, true, 4, .assign (.const (.bool false))⟩])
  (.keep [0]
  (.seq
    (.seq
      (.region [⟨some 5, .none, true, 48, .move (.tmp 0)⟩,
        ⟨some 6, .none, true, 4, .binOp .geq 48 (.tmp 5) (.const (.float .f64 14010698440749613056)) 48⟩,
        ⟨some 7, .none, true, 4, .move (.tmp 6)⟩,
        ⟨some 8, .some 7 true, true, 48, .move (.tmp 0)⟩,
        ⟨some 9, .some 7 true, true, 4, .binOp .leq 48 (.tmp 8) (.const (.float .f64 4787326403894837248)) 48⟩,
        ⟨some 10, .none, true, 4, .pick (.tmp 7) (.tmp 9) (.const (.bool false))⟩,
        ⟨some 11, .none, true, 4, .unOp .not 4 (.tmp 10)⟩])
    (.keep [0, 11]
    (.cond (.tmp 11)
      (.seq
        (.region [⟨some 2, .none, true, 2, .assign (.const (.int .i64 0))⟩,
          ⟨some 3, .none, true, 4, .assign (.const (.bool false))⟩])
      .ret)
      .skip)))
  (.seq
    (.region [⟨some 12, .none, true, 48, .move (.tmp 0)⟩,
      ⟨some 13, .none, true, 2, .convert 48 2 (.tmp 12)⟩,
      ⟨some 4, .none, true, 2, .assign (.tmp 13)⟩])
  (.keep [0, 4]
  (.seq
    (.seq
      (.region [⟨some 14, .none, true, 2, .move (.tmp 4)⟩,
        ⟨some 15, .none, true, 48, .convert 2 48 (.tmp 14)⟩,
        ⟨some 16, .none, true, 48, .move (.tmp 0)⟩,
        ⟨some 17, .none, true, 4, .binOp .neq 48 (.tmp 15) (.tmp 16) 48⟩,
        ⟨some 18, .none, true, 4, .move (.tmp 17)⟩,
        ⟨some 19, .some 18 false, true, 2, .move (.tmp 4)⟩,
        ⟨some 20, .some 18 false, true, 4, .binOp .eql 2 (.tmp 19) (.const (.int .i64 0)) 2⟩,
        ⟨some 21, .some 18 false, true, 4, .move (.tmp 20)⟩,
        ⟨some 22, .some 21 true, true, 48, .move (.tmp 0)⟩,
        ⟨some 23, .some 21 true, true, 48, .binOp .quo 48 (.const (.float .f64 4607182418800017408)) (.tmp 22) 48⟩,
        ⟨some 24, .some 21 true, true, 4, .binOp .lss 48 (.tmp 23) (.const (.float .f64 0)) 48⟩,
        ⟨some 25, .some 18 false, true, 4, .pick (.tmp 21) (.tmp 24) (.const (.bool false))⟩,
        ⟨some 26, .none, true, 4, .pick (.tmp 18) (.const (.bool true)) (.tmp 25)⟩])
    (.keep [4, 26]
    (.cond (.tmp 26)
      (.seq
        (.region [⟨some 2, .none, true, 2, .assign (.const (.int .i64 0))⟩,
          ⟨some 3, .none, true, 4, .assign (.const (.bool false))⟩])
      .ret)
      .skip)))
  (.seq
    (.region [⟨some 27, .none, true, 2, .move (.tmp 4)⟩,
      ⟨some 2, .none, true, 2, .assign (.tmp 27)⟩,
      ⟨some 3, .none, true, 4, .assign (.const (.bool true))⟩])
  .ret)))))))
theorem t_reeveref1_part : FnT Try.prog f_reeveref1_part rc_reeveref1_part [.tmp 2, .tmp 3] 1 := ⟨⟨[], Try.f51, _, Try.func51, rfl, by kernel_rfl, by kernel_rfl, by kernel_rfl, rfl, by decide⟩, by kernel_rfl⟩
/-- reeve/reeveref1.Sum -/
abbrev f_reeveref1_Sum : FuncId := 52
def rc_reeveref1_Suml0 : RCode :=
  (.seq
    (.seq
      (.region [⟨some 8, .none, true, 3, .move (.tmp 6)⟩,
        ⟨some 9, .none, true, 31, .move (.tmp 0)⟩,
        ⟨some 10, .none, true, 3, .call { callee := .builtin .len, args := #[.tmp 9], argTypes := #[31] }⟩,
        ⟨some 11, .none, true, 4, .binOp .lss 3 (.tmp 8) (.tmp 10) 3⟩])
    (.keep [0, 4, 5, 6, 11]
    (.cond (.tmp 11)
      .skip
      (.exit 0))))
  (.seq
    (.block 1
      (.seq
        (.region [⟨some 14, .none, true, 31, .move (.tmp 0)⟩,
          ⟨some 15, .none, true, 3, .move (.tmp 6)⟩,
          ⟨some 16, .none, true, 0, .indexAddr 31 (.tmp 14) (.tmp 15)⟩,
          ⟨some 17, .none, true, 34, .load 34 (.tmp 16)⟩,
          ⟨some 7, .none, true, 34, .assign (.tmp 17)⟩])
      (.keep [0, 4, 5, 6, 7]
      (.seq
        (.region [⟨some 18, .none, true, 2, .move (.tmp 5)⟩,
          ⟨some 19, .none, true, 2, .unOp .neg 2 (.tmp 18)⟩,
          ⟨some 20, .none, true, 2, .move (.tmp 4)⟩,
          ⟨some 4, .none, true, 2, .assign (.tmp 19)⟩,
          ⟨some 5, .none, true, 2, .assign (.tmp 20)⟩])
      (.keep [0, 4, 5, 6, 7]
      (.seq
        (.region [⟨some 21, .none, true, 2, .move (.tmp 4)⟩,
          ⟨some 22, .none, true, 34, .move (.tmp 7)⟩,
          ⟨some 23, .none, true, 34, .binOp .rem 34 (.tmp 22) (.const (.int .u64 65536)) 34⟩,
          ⟨some 24, .none, true, 2, .convert 34 2 (.tmp 23)⟩,
          ⟨some 25, .none, true, 2, .binOp .add 2 (.tmp 21) (.tmp 24) 2⟩,
          ⟨some 26, .none, true, 34, .move (.tmp 7)⟩,
          ⟨some 27, .none, true, 34, .binOp .quo 34 (.tmp 26) (.const (.int .u64 65536)) 34⟩,
          ⟨some 28, .none, true, 34, .binOp .quo 34 (.tmp 27) (.const (.int .u64 65536)) 34⟩,
          ⟨some 29, .none, true, 34, .binOp .rem 34 (.tmp 28) (.const (.int .u64 65536)) 34⟩,
          ⟨some 30, .none, true, 2, .convert 34 2 (.tmp 29)⟩,
          ⟨some 31, .none, true, 2, .binOp .sub 2 (.tmp 25) (.tmp 30) 2⟩,
          ⟨some 32, .none, true, 2, .call { callee := .value (.func 61), args := #[.tmp 31], argTypes := #[2] }⟩,
          ⟨some 4, .none, true, 2, .assign (.tmp 32)⟩])
      (.keep [0, 4, 5, 6, 7]
      (.region [⟨some 33, .none, true, 2, .move (.tmp 5)⟩,
        ⟨some 34, .none, true, 34, .move (.tmp 7)⟩,
        ⟨some 35, .none, true, 34, .binOp .quo 34 (.tmp 34) (.const (.int .u64 65536)) 34⟩,
        ⟨some 36, .none, true, 34, .binOp .rem 34 (.tmp 35) (.const (.int .u64 65536)) 34⟩,
        ⟨some 37, .none, true, 2, .convert 34 2 (.tmp 36)⟩,
        ⟨some 38, .none, true, 2, .binOp .add 2 (.tmp 33) (.tmp 37) 2⟩,
        ⟨some 39, .none, true, 34, .move (.tmp 7)⟩,
        ⟨some 40, .none, true, 34, .binOp .quo 34 (.tmp 39) (.const (.int .u64 65536)) 34⟩,
        ⟨some 41, .none, true, 34, .binOp .quo 34 (.tmp 40) (.const (.int .u64 65536)) 34⟩,
        ⟨some 42, .none, true, 34, .binOp .quo 34 (.tmp 41) (.const (.int .u64 65536)) 34⟩,
        ⟨some 43, .none, true, 2, .convert 34 2 (.tmp 42)⟩,
        ⟨some 44, .none, true, 2, .binOp .sub 2 (.tmp 38) (.tmp 43) 2⟩,
        ⟨some 45, .none, true, 2, .call { callee := .value (.func 61), args := #[.tmp 44], argTypes := #[2] }⟩,
        ⟨some 5, .none, true, 2, .assign (.tmp 45)⟩]))))))))
  (.keep [0, 4, 5, 6]
  (.region [⟨some 12, .none, true, 3, .move (.tmp 6)⟩,
    ⟨some 13, .none, true, 3, .binOp .add 3 (.tmp 12) (.const (.int .i64 1)) 3⟩,
    ⟨some 6, .none, true, 3, .assign (.tmp 13)⟩]))))
def rc_reeveref1_Sum : RCode :=
  (.seq
    (.region [⟨some 2, .none, true, 2, .assign (.const (.int .i64 0))⟩,
      ⟨some 3, .none, true, 2, .assign (.const (.int .i64 0))⟩])
  (.keep [0]
  (.seq
    (.region [⟨some 4, .none, true, 2, .assign (.const (.int .i64 0))⟩,
      ⟨some 5, .none, true, 2, .assign (.const (.int .i64 0))⟩])
  (.keep [0, 4, 5]
  (.seq
    (.seq
      (.region [⟨some 6, .none, true, 3, .assign (.const (.int .i64 0))⟩])
    (.keep [0, 4, 5, 6]
    (.block 0
      (.loop [0, 4, 5, 6] rc_reeveref1_Suml0))))
  (.seq
    (.region [⟨some 46, .none, true, 2, .move (.tmp 4)⟩,
      ⟨some 47, .none, true, 2, .move (.tmp 5)⟩,
      ⟨some 2, .none, true, 2, .assign (.tmp 46)⟩,
      ⟨some 3, .none, true, 2, .assign (.tmp 47)⟩])
  .ret))))))
theorem t_reeveref1_Sum : FnT Try.prog f_reeveref1_Sum rc_reeveref1_Sum [.tmp 2, .tmp 3] 1 := ⟨⟨[], Try.f52, _, Try.func52, rfl, by kernel_rfl, by kernel_rfl, by kernel_rfl, rfl, by decide⟩, by kernel_rfl⟩
/-- math.Trunc -/
abbrev f_math_Trunc : FuncId := 59
def rc_math_Trunc : RCode :=
  (.seq
    (.region [⟨some 2, .none, true, 48, .assign (.const (.float .f64 0))⟩])
  (.keep [0]
  (.seq
    (.cond (.const (.bool true))
      (.seq
        (.region [⟨some 3, .none, true, 48, .move (.tmp 0)⟩,
          ⟨some 4, .none, true, 48, .call { callee := .value (.func 64), args := #[.tmp 3], argTypes := #[48] }⟩,
          ⟨some 2, .none, true, 48, .assign (.tmp 4)⟩])
      .ret)
      .skip)
  (.keep [0]
  (.seq
    (.region [⟨some 5, .none, true, 48, .move (.tmp 0)⟩,
      ⟨some 6, .none, true, 48, .call { callee := .value (.func 65), args := #[.tmp 5], argTypes := #[48] }⟩,
      ⟨some 2, .none, true, 48, .assign (.tmp 6)⟩])
  .ret)))))
theorem t_math_Trunc : FnT Try.prog f_math_Trunc rc_math_Trunc [.tmp 2] 1 := ⟨⟨[], Try.f59, _, Try.func59, rfl, by kernel_rfl, by kernel_rfl, by kernel_rfl, rfl, by decide⟩, by kernel_rfl⟩
/-- math.Signbit -/
abbrev f_math_Signbit : FuncId := 60
def rc_math_Signbit : RCode :=
  (.seq
    (.region [⟨some 2, .none, true, 4, .assign (.const (.bool false))⟩])
  (.keep [0]
  (.seq
    (.region [⟨some 3, .none, true, 48, .move (.tmp 0)⟩,
      ⟨some 4, .none, true, 34, .call { callee := .value (.func 66), args := #[.tmp 3], argTypes := #[48] }⟩,
      ⟨some 5, .none, true, 2, .convert 34 2 (.tmp 4)⟩,
      ⟨some 6, .none, true, 4, .binOp .lss 2 (.tmp 5) (.const (.int .i64 0)) 2⟩,
      ⟨some 2, .none, true, 4, .assign (.tmp 6)⟩])
  .ret)))
theorem t_math_Signbit : FnT Try.prog f_math_Signbit rc_math_Signbit [.tmp 2] 1 := ⟨⟨[], Try.f60, _, Try.func60, rfl, by kernel_rfl, by kernel_rfl, by kernel_rfl, rfl, by decide⟩, by kernel_rfl⟩
/-- reeve/reeveref1.rest -/
abbrev f_reeveref1_rest : FuncId := 61
def rc_reeveref1_rest : RCode :=
  (.seq
    (.region [⟨some 2, .none, true, 2, .assign (.const (.int .i64 0))⟩])
  (.keep [0]
  (.seq
    (.region [⟨some 3, .none, true, 2, .move (.tmp 0)⟩,
      ⟨some 4, .none, true, 2, .binOp .rem 2 (.tmp 3) (.const (.int .i64 1000003)) 2⟩,
      ⟨some 0, .none, true, 2, .assign (.tmp 4)⟩])
  (.keep [0]
  (.seq
    (.seq
      (.region [⟨some 5, .none, true, 2, .move (.tmp 0)⟩,
        ⟨some 6, .none, true, 4, .binOp .lss 2 (.tmp 5) (.const (.int .i64 0)) 2⟩])
    (.keep [0, 6]
    (.cond (.tmp 6)
      (.region [⟨some 7, .none, true, 2, .move (.tmp 0)⟩,
        ⟨some 8, .none, true, 2, .binOp .add 2 (.tmp 7) (.const (.int .i64 1000003)) 2⟩,
        ⟨some 0, .none, true, 2, .assign (.tmp 8)⟩])
      .skip)))
  (.seq
    (.region [⟨some 9, .none, true, 2, .move (.tmp 0)⟩,
      ⟨some 2, .none, true, 2, .assign (.tmp 9)⟩])
  .ret))))))
theorem t_reeveref1_rest : FnT Try.prog f_reeveref1_rest rc_reeveref1_rest [.tmp 2] 1 := ⟨⟨[], Try.f61, _, Try.func61, rfl, by kernel_rfl, by kernel_rfl, by kernel_rfl, rfl, by decide⟩, by kernel_rfl⟩
/-- math.trunc -/
abbrev f_math_trunc : FuncId := 65
def rc_math_trunc : RCode :=
  (.seq
    (.region [⟨some 2, .none, true, 48, .assign (.const (.float .f64 0))⟩])
  (.keep [0]
  (.seq
    (.seq
      (.region [⟨some 5, .none, true, 48, .move (.tmp 0)⟩,
        ⟨some 6, .none, true, 48, .call { callee := .value (.func 69), args := #[.tmp 5], argTypes := #[48] }⟩,
        ⟨some 7, .none, true, 4, .binOp .lss 48 (.tmp 6) (.const (.float .f64 4607182418800017408)) 48⟩])
    (.keep [0, 7]
    (.cond (.tmp 7)
      (.seq
        (.region [⟨some 8, .none, true, 48, .move (.tmp 0)⟩,
          ⟨some 9, .none, true, 48, .call { callee := .value (.func 70), args := #[.const (.float .f64 0), .tmp 8], argTypes := #[48, 48] }⟩,
          ⟨some 2, .none, true, 48, .assign (.tmp 9)⟩])
      .ret)
      .skip)))
  (.seq
    (.region [⟨some 10, .none, true, 48, .move (.tmp 0)⟩,
      ⟨some 11, .none, true, 34, .call { callee := .value (.func 66), args := #[.tmp 10], argTypes := #[48] }⟩,
      ⟨some 3, .none, true, 34, .assign (.tmp 11)⟩])
  (.keep [3]
  (.seq
    (.region [⟨some 12, .none, true, 34, .move (.tmp 3)⟩,
      ⟨some 13, .none, true, 34, .binOp .shr 34 (.tmp 12) (.const (.int .u64 52)) 33⟩,
      ⟨some 14, .none, true, 33, .binOp .and 33 (.tmp 13) (.const (.int .u64 2047)) 33⟩,
      ⟨some 15, .none, true, 33, .binOp .sub 33 (.tmp 14) (.const (.int .u64 1023)) 33⟩,
      ⟨some 4, .none, true, 33, .assign (.tmp 15)⟩])
  (.keep [3, 4]
  (.seq
    (.seq
      (.region [⟨some 16, .none, true, 33, .move (.tmp 4)⟩,
        ⟨some 17, .none, true, 4, .binOp .lss 33 (.tmp 16) (.const (.int .u64 52)) 33⟩])
    (.keep [3, 4, 17]
    (.cond (.tmp 17)
      (.region [⟨some 18, .none, true, 34, .move (.tmp 3)⟩,
        ⟨some 19, .none, true, 33, .move (.tmp 4)⟩,
        ⟨some 20, .none, true, 33, .binOp .sub 33 (.const (.int .u64 52)) (.tmp 19) 33⟩,
        ⟨some 21, .none, true, 34, .binOp .shl 34 (.const (.int .u64 1)) (.tmp 20) 33⟩,
        ⟨some 22, .none, true, 34, .binOp .sub 34 (.tmp 21) (.const (.int .u64 1)) 34⟩,
        ⟨some 23, .none, true, 34, .binOp .andNot 34 (.tmp 18) (.tmp 22) 34⟩,
        ⟨some 3, .none, true, 34, .assign (.tmp 23)⟩])
      .skip)))
  (.seq
    (.region [⟨some 24, .none, true, 34, .move (.tmp 3)⟩,
      ⟨some 25, .none, true, 48, .call { callee := .value (.func 71), args := #[.tmp 24], argTypes := #[34] }⟩,
      ⟨some 2, .none, true, 48, .assign (.tmp 25)⟩])
  .ret)))))))))
theorem t_math_trunc : FnT Try.prog f_math_trunc rc_math_trunc [.tmp 2] 1 := ⟨⟨[], Try.f65, _, Try.func65, rfl, by kernel_rfl, by kernel_rfl, by kernel_rfl, rfl, by decide⟩, by kernel_rfl⟩
/-- math.Abs -/
abbrev f_math_Abs : FuncId := 69
def rc_math_Abs : RCode :=
  (.seq
    (.region [⟨some 2, .none, true, 48, .assign (.const (.float .f64 0))⟩])
  (.keep [0]
  (.seq
    (.region [⟨some 3, .none, true, 48, .move (.tmp 0)⟩,
      ⟨some 4, .none, true, 34, .call { callee := .value (.func 66), args := #[.tmp 3], argTypes := #[48] }⟩,
      ⟨some 5, .none, true, 34, .binOp .andNot 34 (.tmp 4) (.const (.int .u64 9223372036854775808)) 34⟩,
      ⟨some 6, .none, true, 48, .call { callee := .value (.func 71), args := #[.tmp 5], argTypes := #[34] }⟩,
      ⟨some 2, .none, true, 48, .assign (.tmp 6)⟩])
  .ret)))
theorem t_math_Abs : FnT Try.prog f_math_Abs rc_math_Abs [.tmp 2] 1 := ⟨⟨[], Try.f69, _, Try.func69, rfl, by kernel_rfl, by kernel_rfl, by kernel_rfl, rfl, by decide⟩, by kernel_rfl⟩
/-- math.Copysign -/
abbrev f_math_Copysign : FuncId := 70
def rc_math_Copysign : RCode :=
  (.seq
    (.region [⟨some 4, .none, true, 48, .assign (.const (.float .f64 0))⟩])
  (.keep [0, 1]
  (.seq
    (.region [⟨some 5, .none, true, 48, .move (.tmp 0)⟩,
      ⟨some 6, .none, true, 34, .call { callee := .value (.func 66), args := #[.tmp 5], argTypes := #[48] }⟩,
      ⟨some 7, .none, true, 34, .binOp .andNot 34 (.tmp 6) (.const (.int .u64 9223372036854775808)) 34⟩,
      ⟨some 8, .none, true, 48, .move (.tmp 1)⟩,
      ⟨some 9, .none, true, 34, .call { callee := .value (.func 66), args := #[.tmp 8], argTypes := #[48] }⟩,
      ⟨some 10, .none, true, 34, .binOp .and 34 (.tmp 9) (.const (.int .u64 9223372036854775808)) 34⟩,
      ⟨some 11, .none, true, 34, .binOp .or 34 (.tmp 7) (.tmp 10) 34⟩,
      ⟨some 12, .none, true, 48, .call { callee := .value (.func 71), args := #[.tmp 11], argTypes := #[34] }⟩,
      ⟨some 4, .none, true, 48, .assign (.tmp 12)⟩])
  .ret)))
theorem t_math_Copysign : FnT Try.prog f_math_Copysign rc_math_Copysign [.tmp 4] 2 := ⟨⟨[], Try.f70, _, Try.func70, rfl, by kernel_rfl, by kernel_rfl, by kernel_rfl, rfl, by decide⟩, by kernel_rfl⟩
def tab : XTab :=
  [(3, rc_reevelaw1_GaussTurns, [.tmp 8], 4),
   (4, rc_reevelaw1_GaussSpins, [.tmp 8], 4),
   (5, rc_reevelaw1_GaussLong, [.tmp 4], 2),
   (6, rc_reevelaw1_GaussWords, [.tmp 4], 2),
   (7, rc_reevelaw1_GaussRing, [.tmp 12], 6),
   (9, rc_reevelaw1_GaussSays, [.tmp 16], 8),
   (14, rc_reevelaw1_awake, [.tmp 0], 0),
   (15, rc_gauss_Of, [.tmp 4, .tmp 5], 2),
   (16, rc_gauss_Turn, [.tmp 4], 2),
   (17, rc_gauss_Mul, [.tmp 4, .tmp 5], 2),
   (18, rc_reevelaw1_same, [.tmp 4], 2),
   (19, rc_gauss_Whole, [.tmp 2], 1),
   (20, rc_gauss_Spin, [.tmp 2], 1),
   (21, rc_gauss_Parts, [.tmp 2, .tmp 3, .tmp 4], 1),
   (22, rc_reevelaw1_rest, [.tmp 2], 1),
   (23, rc_gauss_Word, [.tmp 2, .tmp 3], 1),
   (24, rc_gauss_Add, [.tmp 4, .tmp 5], 2),
   (25, rc_gauss_Norm, [.tmp 2], 1),
   (26, rc_reeveref1_Add, [.tmp 4, .tmp 5], 2),
   (27, rc_reeveref1_Mul, [.tmp 4, .tmp 5], 2),
   (28, rc_reeveref1_Of, [.tmp 4, .tmp 5], 2),
   (29, rc_reeveref1_Parts, [.tmp 2, .tmp 3, .tmp 4], 1),
   (30, rc_reeveref1_Word, [.tmp 2, .tmp 3], 1),
   (31, rc_reeveref1_Turn, [.tmp 4], 2),
   (32, rc_reeveref1_Norm, [.tmp 2], 1),
   (33, rc_reeveref1_Spin, [.tmp 2], 1),
   (46, rc_gauss_in, [.tmp 2], 1),
   (47, rc_gauss_near, [.tmp 4], 2),
   (48, rc_gauss_rest, [.tmp 2], 1),
   (49, rc_gauss_whole, [.tmp 2, .tmp 3], 1),
   (50, rc_reeveref1_small, [.tmp 2], 1),
   (51, rc_reeveref1_part, [.tmp 2, .tmp 3], 1),
   (52, rc_reeveref1_Sum, [.tmp 2, .tmp 3], 1),
   (59, rc_math_Trunc, [.tmp 2], 1),
   (60, rc_math_Signbit, [.tmp 2], 1),
   (61, rc_reeveref1_rest, [.tmp 2], 1),
   (65, rc_math_trunc, [.tmp 2], 1),
   (69, rc_math_Abs, [.tmp 2], 1),
   (70, rc_math_Copysign, [.tmp 4], 2)]
theorem tabOk : TabOk Try.prog tab :=
  .cons t_reevelaw1_GaussTurns <|
  .cons t_reevelaw1_GaussSpins <|
  .cons t_reevelaw1_GaussLong <|
  .cons t_reevelaw1_GaussWords <|
  .cons t_reevelaw1_GaussRing <|
  .cons t_reevelaw1_GaussSays <|
  .cons t_reevelaw1_awake <|
  .cons t_gauss_Of <|
  .cons t_gauss_Turn <|
  .cons t_gauss_Mul <|
  .cons t_reevelaw1_same <|
  .cons t_gauss_Whole <|
  .cons t_gauss_Spin <|
  .cons t_gauss_Parts <|
  .cons t_reevelaw1_rest <|
  .cons t_gauss_Word <|
  .cons t_gauss_Add <|
  .cons t_gauss_Norm <|
  .cons t_reeveref1_Add <|
  .cons t_reeveref1_Mul <|
  .cons t_reeveref1_Of <|
  .cons t_reeveref1_Parts <|
  .cons t_reeveref1_Word <|
  .cons t_reeveref1_Turn <|
  .cons t_reeveref1_Norm <|
  .cons t_reeveref1_Spin <|
  .cons t_gauss_in <|
  .cons t_gauss_near <|
  .cons t_gauss_rest <|
  .cons t_gauss_whole <|
  .cons t_reeveref1_small <|
  .cons t_reeveref1_part <|
  .cons t_reeveref1_Sum <|
  .cons t_math_Trunc <|
  .cons t_math_Signbit <|
  .cons t_reeveref1_rest <|
  .cons t_math_trunc <|
  .cons t_math_Abs <|
  .cons t_math_Copysign <| .nil

end Go.Proofs.Ytcndbfekcmalmaa.F1
