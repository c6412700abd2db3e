/- Functions of the program made ready for walking, each with its proof; facts of types. Written by gen2.py. -/
import Derived.Test.YtcndbfekcmalmaaProg
import Derived.Test.YtcndbfekcmalmaaAbsD
set_option linter.unusedVariables false
set_option maxRecDepth 100000
namespace Go.Proofs.Ytcndbfekcmalmaa.F1K
open Go Go.Proofs Go.Proofs.YtcndbfekcmalmaaAbs
theorem hm : Try.prog.follows .mixedOrders = true := by kernel_rfl
/-- math.archTrunc (without a body) -/
abbrev f_math_archTrunc : FuncId := 64
/-- math.Float64bits (without a body) -/
abbrev f_math_Float64bits : FuncId := 66
/-- math.Float64frombits (without a body) -/
abbrev f_math_Float64frombits : FuncId := 71
abbrev T_int64 : TypeId := 2
theorem ts_int64 : tsize Try.prog 2 = some 1 := by kernel_rfl
theorem tb_int64 : tbytes Try.prog 2 = some 8 := by kernel_rfl
theorem ta_int64 : tagg Try.prog 2 = some false := by kernel_rfl
theorem tz_int64 : zeroFlat Try.prog 2 = some [.int .i64 0] := by kernel_rfl
theorem tv_int64 : tzero Try.prog 2 = some (.int .i64 0) := by kernel_rfl
theorem tu_int64 : Try.prog.underlying 2 = some (.int .i64) := by kernel_rfl
abbrev T_int : TypeId := 3
theorem ts_int : tsize Try.prog 3 = some 1 := by kernel_rfl
theorem tb_int : tbytes Try.prog 3 = some 8 := by kernel_rfl
theorem ta_int : tagg Try.prog 3 = some false := by kernel_rfl
theorem tz_int : zeroFlat Try.prog 3 = some [.int .i64 0] := by kernel_rfl
theorem tv_int : tzero Try.prog 3 = some (.int .i64 0) := by kernel_rfl
theorem tu_int : Try.prog.underlying 3 = some (.int .i64) := by kernel_rfl
abbrev T_bool : TypeId := 4
theorem ts_bool : tsize Try.prog 4 = some 1 := by kernel_rfl
theorem tb_bool : tbytes Try.prog 4 = some 1 := by kernel_rfl
theorem ta_bool : tagg Try.prog 4 = some false := by kernel_rfl
theorem tz_bool : zeroFlat Try.prog 4 = some [.bool false] := by kernel_rfl
theorem tv_bool : tzero Try.prog 4 = some (.bool false) := by kernel_rfl
theorem tu_bool : Try.prog.underlying 4 = some (.bool) := by kernel_rfl
abbrev T_complex128 : TypeId := 23
theorem ts_complex128 : tsize Try.prog 23 = some 1 := by kernel_rfl
theorem tb_complex128 : tbytes Try.prog 23 = some 16 := by kernel_rfl
theorem ta_complex128 : tagg Try.prog 23 = some false := by kernel_rfl
theorem tz_complex128 : zeroFlat Try.prog 23 = some [.complex .f64 0 0] := by kernel_rfl
theorem tv_complex128 : tzero Try.prog 23 = some (.complex .f64 0 0) := by kernel_rfl
theorem tu_complex128 : Try.prog.underlying 23 = some (.complex .f64) := by kernel_rfl
abbrev T_S_uint64 : TypeId := 31
abbrev T_uint64 : TypeId := 34
theorem ts_uint64 : tsize Try.prog 34 = some 1 := by kernel_rfl
theorem tb_uint64 : tbytes Try.prog 34 = some 8 := by kernel_rfl
theorem ta_uint64 : tagg Try.prog 34 = some false := by kernel_rfl
theorem tz_uint64 : zeroFlat Try.prog 34 = some [.int .u64 0] := by kernel_rfl
theorem tv_uint64 : tzero Try.prog 34 = some (.int .u64 0) := by kernel_rfl
theorem tu_uint64 : Try.prog.underlying 34 = some (.int .u64) := by kernel_rfl
theorem ts_S_uint64 : tsize Try.prog 31 = some 1 := by kernel_rfl
theorem tb_S_uint64 : tbytes Try.prog 31 = some 24 := by kernel_rfl
theorem ta_S_uint64 : tagg Try.prog 31 = some false := by kernel_rfl
theorem tz_S_uint64 : zeroFlat Try.prog 31 = some [.slice none 0 0] := by kernel_rfl
theorem tv_S_uint64 : tzero Try.prog 31 = some (.slice none 0 0) := by kernel_rfl
theorem tu_S_uint64 : Try.prog.underlying 31 = some (.slice 34) := by kernel_rfl
abbrev T_float64 : TypeId := 48
theorem ts_float64 : tsize Try.prog 48 = some 1 := by kernel_rfl
theorem tb_float64 : tbytes Try.prog 48 = some 8 := by kernel_rfl
theorem ta_float64 : tagg Try.prog 48 = some false := by kernel_rfl
theorem tz_float64 : zeroFlat Try.prog 48 = some [.float .f64 0] := by kernel_rfl
theorem tv_float64 : tzero Try.prog 48 = some (.float .f64 0) := by kernel_rfl
theorem tu_float64 : Try.prog.underlying 48 = some (.float .f64) := by kernel_rfl
abbrev T_uint16 : TypeId := 32
theorem ts_uint16 : tsize Try.prog 32 = some 1 := by kernel_rfl
theorem tb_uint16 : tbytes Try.prog 32 = some 2 := by kernel_rfl
theorem ta_uint16 : tagg Try.prog 32 = some false := by kernel_rfl
theorem tz_uint16 : zeroFlat Try.prog 32 = some [.int .u16 0] := by kernel_rfl
theorem tv_uint16 : tzero Try.prog 32 = some (.int .u16 0) := by kernel_rfl
theorem tu_uint16 : Try.prog.underlying 32 = some (.int .u16) := by kernel_rfl
abbrev T_uint : TypeId := 33
theorem ts_uint : tsize Try.prog 33 = some 1 := by kernel_rfl
theorem tb_uint : tbytes Try.prog 33 = some 8 := by kernel_rfl
theorem ta_uint : tagg Try.prog 33 = some false := by kernel_rfl
theorem tz_uint : zeroFlat Try.prog 33 = some [.int .u64 0] := by kernel_rfl
theorem tv_uint : tzero Try.prog 33 = some (.int .u64 0) := by kernel_rfl
theorem tu_uint : Try.prog.underlying 33 = some (.int .u64) := by kernel_rfl
theorem bl_S_uint64 : ∀ (ty : TypeId) (ev : Operand → Value) (g : AMem) (n : Nat) (len : Nat) (parts : Array (Nat × Operand)), len * 1 ≤ 16777216 → aOp Try.prog ty ev g n (.buildSlice 31 len parts) = (fillS 1 (zeroRow [.int .u64 0] len) (parts.toList.map fun p => (p.1, ev p.2))).map fun cs => (.slice (some ⟨n, 0, none⟩) len 1, .new (.row cs true)) := fun ty ev g n len parts hb => aOp_buildL tu_S_uint64 tz_uint64 ts_uint64 rfl ty ev g n len parts hb
theorem ap_S_uint64 : ∀ (g : AMem) (n : Nat) (s x : Value), aAppend Try.prog g n 31 s x = appR g n 0 8 s (aRead g 1 x) := inst_append tu_S_uint64 ts_uint64 tb_uint64 tv_uint64 rfl
theorem mk_S_uint64 : ∀ (n : Nat) (k k' : IntKind) (l c : Int), aMake Try.prog n 31 (.int k l) (.int k' c) = if 0 ≤ l ∧ l ≤ c ∧ c ≤ 70368744177664 ∧ 8 * c.toNat ≤ 70368744177664 then some (.slice (some ⟨n, 0, none⟩) l.toNat 1, .new (.row (zeroRow [.int .u64 0] l.toNat) true)) else none := inst_make tu_S_uint64 ts_uint64 tb_uint64 tv_uint64 rfl rfl
theorem sl_S_uint64 : ∀ (ty : TypeId) (ev : Operand → Value) (g : AMem) (n : Nat) (x : Operand) (lo hi : Option Operand), aOp Try.prog ty ev g n (.slice 31 x lo hi none) = (slR 1 (ev x) (lo.map ev) (hi.map ev)).map fun v => (v, .none) := aOp_sliceS tu_S_uint64 ts_uint64
theorem cp_S_uint64 : ∀ (g : AMem) (d s : Value), aCopy Try.prog g 31 d s = cpR g 1 d (aRead g 1 s) := aCopy_eq tu_S_uint64 ts_uint64
theorem q_int64 : (tsize Try.prog 2 = some 1) ∧ (tagg Try.prog 2 = some false) ∧ (zeroFlat Try.prog 2 = some [.int .i64 0]) ∧ (Try.prog.underlying 2 = some (.int .i64)) := ⟨ts_int64, ta_int64, tz_int64, tu_int64⟩
theorem q_int : (tsize Try.prog 3 = some 1) ∧ (tagg Try.prog 3 = some false) ∧ (zeroFlat Try.prog 3 = some [.int .i64 0]) ∧ (Try.prog.underlying 3 = some (.int .i64)) := ⟨ts_int, ta_int, tz_int, tu_int⟩
theorem q_bool : (tsize Try.prog 4 = some 1) ∧ (tagg Try.prog 4 = some false) ∧ (zeroFlat Try.prog 4 = some [.bool false]) ∧ (Try.prog.underlying 4 = some (.bool)) := ⟨ts_bool, ta_bool, tz_bool, tu_bool⟩
theorem q_complex128 : (tsize Try.prog 23 = some 1) ∧ (tagg Try.prog 23 = some false) ∧ (zeroFlat Try.prog 23 = some [.complex .f64 0 0]) ∧ (Try.prog.underlying 23 = some (.complex .f64)) := ⟨ts_complex128, ta_complex128, tz_complex128, tu_complex128⟩
theorem q_S_uint64 : (tsize Try.prog 31 = some 1) ∧ (tagg Try.prog 31 = some false) ∧ (zeroFlat Try.prog 31 = some [.slice none 0 0]) ∧ (Try.prog.underlying 31 = some (.slice 34)) ∧ (∀ (ty : TypeId) (ev : Operand → Value) (g : AMem) (n : Nat) (len : Nat) (parts : Array (Nat × Operand)), len * 1 ≤ 16777216 → aOp Try.prog ty ev g n (.buildSlice 31 len parts) = (fillS 1 (zeroRow [.int .u64 0] len) (parts.toList.map fun p => (p.1, ev p.2))).map fun cs => (.slice (some ⟨n, 0, none⟩) len 1, .new (.row cs true))) ∧ (∀ (g : AMem) (n : Nat) (s x : Value), aAppend Try.prog g n 31 s x = appR g n 0 8 s (aRead g 1 x)) ∧ (∀ (n : Nat) (k k' : IntKind) (l c : Int), aMake Try.prog n 31 (.int k l) (.int k' c) = if 0 ≤ l ∧ l ≤ c ∧ c ≤ 70368744177664 ∧ 8 * c.toNat ≤ 70368744177664 then some (.slice (some ⟨n, 0, none⟩) l.toNat 1, .new (.row (zeroRow [.int .u64 0] l.toNat) true)) else none) ∧ (∀ (ty : TypeId) (ev : Operand → Value) (g : AMem) (n : Nat) (x : Operand) (lo hi : Option Operand), aOp Try.prog ty ev g n (.slice 31 x lo hi none) = (slR 1 (ev x) (lo.map ev) (hi.map ev)).map fun v => (v, .none)) ∧ (∀ (g : AMem) (d s : Value), aCopy Try.prog g 31 d s = cpR g 1 d (aRead g 1 s)) := ⟨ts_S_uint64, ta_S_uint64, tz_S_uint64, tu_S_uint64, bl_S_uint64, ap_S_uint64, mk_S_uint64, sl_S_uint64, cp_S_uint64⟩
theorem q_uint16 : (tsize Try.prog 32 = some 1) ∧ (tagg Try.prog 32 = some false) ∧ (zeroFlat Try.prog 32 = some [.int .u16 0]) ∧ (Try.prog.underlying 32 = some (.int .u16)) := ⟨ts_uint16, ta_uint16, tz_uint16, tu_uint16⟩
theorem q_uint : (tsize Try.prog 33 = some 1) ∧ (tagg Try.prog 33 = some false) ∧ (zeroFlat Try.prog 33 = some [.int .u64 0]) ∧ (Try.prog.underlying 33 = some (.int .u64)) := ⟨ts_uint, ta_uint, tz_uint, tu_uint⟩
theorem q_uint64 : (tsize Try.prog 34 = some 1) ∧ (tagg Try.prog 34 = some false) ∧ (zeroFlat Try.prog 34 = some [.int .u64 0]) ∧ (Try.prog.underlying 34 = some (.int .u64)) := ⟨ts_uint64, ta_uint64, tz_uint64, tu_uint64⟩
theorem q_float64 : (tsize Try.prog 48 = some 1) ∧ (tagg Try.prog 48 = some false) ∧ (zeroFlat Try.prog 48 = some [.float .f64 0]) ∧ (Try.prog.underlying 48 = some (.float .f64)) := ⟨ts_float64, ta_float64, tz_float64, tu_float64⟩
/-- reeve/reevelaw1.GaussKnown -/
abbrev f_reevelaw1_GaussKnown : FuncId := 8
def rc_reevelaw1_GaussKnown : RCode :=
  (.seq
    (.region [⟨some 0, .none, true, 4, .assign (.const (.bool false))⟩])
  (.keep []
  (.seq
    (.seq
      (.region [⟨some 26, .none, true, 4, .call { callee := .value (.func 14), args := #[], argTypes := #[] }⟩,
        ⟨some 27, .none, true, 4, .unOp .not 4 (.tmp 26)⟩])
    (.keep [27]
    (.cond (.tmp 27)
      (.seq
        (.region [⟨some 0, .none, true, 4, .assign (.const (.bool false))⟩])
      .ret)
      .skip)))
  (.seq
    (.region [⟨some 1, .none, true, 48, .assign (.const (.float .f64 4787326403894837248))⟩])
  (.keep [1]
  (.seq
    (.region [⟨some 29, .none, true, 24, .call { callee := .value (.func 15), args := #[.const (.int .i64 1099511627777), .const (.int .i64 0)], argTypes := #[2, 2] }⟩,
      ⟨some 28, .none, true, 24, .move (.tmp 29)⟩,
      ⟨some 30, .none, true, 23, .extract (.tmp 28) 0⟩,
      ⟨some 31, .none, true, 4, .extract (.tmp 28) 1⟩,
      ⟨some 2, .none, true, 23, .assign (.tmp 30)⟩,
      ⟨some 3, .none, true, 4, .assign (.tmp 31)⟩])
  (.keep [1, 3]
  (.seq
    (.region [⟨some 33, .none, true, 24, .call { callee := .value (.func 15), args := #[.const (.int .i64 0), .const (.int .i64 (-1099511627777))], argTypes := #[2, 2] }⟩,
      ⟨some 32, .none, true, 24, .move (.tmp 33)⟩,
      ⟨some 34, .none, true, 23, .extract (.tmp 32) 0⟩,
      ⟨some 35, .none, true, 4, .extract (.tmp 32) 1⟩,
      ⟨some 4, .none, true, 23, .assign (.tmp 34)⟩,
      ⟨some 5, .none, true, 4, .assign (.tmp 35)⟩])
  (.keep [1, 3, 5]
  (.seq
    (.region [⟨some 37, .none, true, 24, .call { callee := .value (.func 15), args := #[.const (.int .i64 1099511627776), .const (.int .i64 (-1099511627776))], argTypes := #[2, 2] }⟩,
      ⟨some 36, .none, true, 24, .move (.tmp 37)⟩,
      ⟨some 38, .none, true, 23, .extract (.tmp 36) 0⟩,
      ⟨some 39, .none, true, 4, .extract (.tmp 36) 1⟩,
      ⟨some 6, .none, true, 23, .assign (.tmp 38)⟩,
      ⟨some 7, .none, true, 4, .assign (.tmp 39)⟩])
  (.keep [1, 3, 5, 6, 7]
  (.seq
    (.region [⟨some 41, .none, true, 48, .move (.tmp 1)⟩,
      ⟨some 42, .none, true, 23, .call { callee := .builtin .complex, args := #[.tmp 41, .const (.float .f64 0)], argTypes := #[48, 48] }⟩,
      ⟨some 43, .none, true, 24, .call { callee := .value (.func 24), args := #[.tmp 42, .const (.complex .f64 4607182418800017408 0)], argTypes := #[23, 23] }⟩,
      ⟨some 40, .none, true, 24, .move (.tmp 43)⟩,
      ⟨some 44, .none, true, 23, .extract (.tmp 40) 0⟩,
      ⟨some 45, .none, true, 4, .extract (.tmp 40) 1⟩,
      ⟨some 8, .none, true, 23, .assign (.tmp 44)⟩,
      ⟨some 9, .none, true, 4, .assign (.tmp 45)⟩])
  (.keep [1, 3, 5, 6, 7, 9]
  (.seq
    (.region [⟨some 47, .none, true, 24, .call { callee := .value (.func 17), args := #[.const (.complex .f64 4742290407625326592 0), .const (.complex .f64 4607182418800017408 0)], argTypes := #[23, 23] }⟩,
      ⟨some 46, .none, true, 24, .move (.tmp 47)⟩,
      ⟨some 48, .none, true, 23, .extract (.tmp 46) 0⟩,
      ⟨some 49, .none, true, 4, .extract (.tmp 46) 1⟩,
      ⟨some 10, .none, true, 23, .assign (.tmp 48)⟩,
      ⟨some 11, .none, true, 4, .assign (.tmp 49)⟩])
  (.keep [1, 3, 5, 6, 7, 9, 11]
  (.seq
    (.region [⟨some 51, .none, true, 24, .call { callee := .value (.func 17), args := #[.const (.complex .f64 4697254411347427328 0), .const (.complex .f64 4697254411347427328 0)], argTypes := #[23, 23] }⟩,
      ⟨some 50, .none, true, 24, .move (.tmp 51)⟩,
      ⟨some 52, .none, true, 23, .extract (.tmp 50) 0⟩,
      ⟨some 53, .none, true, 4, .extract (.tmp 50) 1⟩,
      ⟨some 12, .none, true, 23, .assign (.tmp 52)⟩,
      ⟨some 13, .none, true, 4, .assign (.tmp 53)⟩])
  (.keep [1, 3, 5, 6, 7, 9, 11, 12, 13]
  (.seq
    (.region [⟨some 55, .none, true, 24, .call { callee := .value (.func 17), args := #[.const (.complex .f64 4701758010974797824 0), .const (.complex .f64 4697254411347427328 0)], argTypes := #[23, 23] }⟩,
      ⟨some 54, .none, true, 24, .move (.tmp 55)⟩,
      ⟨some 56, .none, true, 23, .extract (.tmp 54) 0⟩,
      ⟨some 57, .none, true, 4, .extract (.tmp 54) 1⟩,
      ⟨some 14, .none, true, 23, .assign (.tmp 56)⟩,
      ⟨some 15, .none, true, 4, .assign (.tmp 57)⟩])
  (.keep [1, 3, 5, 6, 7, 9, 11, 12, 13, 15]
  (.seq
    (.region [⟨some 59, .none, true, 37, .call { callee := .value (.func 21), args := #[.const (.complex .f64 4602678819172646912 0)], argTypes := #[23] }⟩,
      ⟨some 58, .none, true, 37, .move (.tmp 59)⟩,
      ⟨some 60, .none, true, 2, .extract (.tmp 58) 0⟩,
      ⟨some 61, .none, true, 2, .extract (.tmp 58) 1⟩,
      ⟨some 62, .none, true, 4, .extract (.tmp 58) 2⟩,
      ⟨some 16, .none, true, 2, .assign (.tmp 60)⟩,
      ⟨some 17, .none, true, 2, .assign (.tmp 61)⟩,
      ⟨some 18, .none, true, 4, .assign (.tmp 62)⟩])
  (.keep [1, 3, 5, 6, 7, 9, 11, 12, 13, 15, 18]
  (.seq
    (.region [⟨some 64, .none, true, 37, .call { callee := .value (.func 21), args := #[.const (.complex .f64 13837309855095848960 4616189618054758400)], argTypes := #[23] }⟩,
      ⟨some 63, .none, true, 37, .move (.tmp 64)⟩,
      ⟨some 65, .none, true, 2, .extract (.tmp 63) 0⟩,
      ⟨some 66, .none, true, 2, .extract (.tmp 63) 1⟩,
      ⟨some 67, .none, true, 4, .extract (.tmp 63) 2⟩,
      ⟨some 19, .none, true, 2, .assign (.tmp 65)⟩,
      ⟨some 20, .none, true, 2, .assign (.tmp 66)⟩,
      ⟨some 21, .none, true, 4, .assign (.tmp 67)⟩])
  (.keep [1, 3, 5, 6, 7, 9, 11, 12, 13, 15, 18, 19, 20, 21]
  (.seq
    (.region [⟨some 69, .none, true, 42, .call { callee := .value (.func 23), args := #[.const (.complex .f64 13830554455654793216 0)], argTypes := #[23] }⟩,
      ⟨some 68, .none, true, 42, .move (.tmp 69)⟩,
      ⟨some 70, .none, true, 34, .extract (.tmp 68) 0⟩,
      ⟨some 71, .none, true, 4, .extract (.tmp 68) 1⟩,
      ⟨some 22, .none, true, 34, .assign (.tmp 70)⟩,
      ⟨some 23, .none, true, 4, .assign (.tmp 71)⟩])
  (.keep [1, 3, 5, 6, 7, 9, 11, 12, 13, 15, 18, 19, 20, 21, 23]
  (.seq
    (.region [⟨some 73, .none, true, 42, .call { callee := .value (.func 23), args := #[.const (.complex .f64 4607182418800017408 4611686018427387904)], argTypes := #[23] }⟩,
      ⟨some 72, .none, true, 42, .move (.tmp 73)⟩,
      ⟨some 74, .none, true, 34, .extract (.tmp 72) 0⟩,
      ⟨some 75, .none, true, 4, .extract (.tmp 72) 1⟩,
      ⟨some 24, .none, true, 34, .assign (.tmp 74)⟩,
      ⟨some 25, .none, true, 4, .assign (.tmp 75)⟩])
  (.keep [1, 3, 5, 6, 7, 9, 11, 12, 13, 15, 18, 19, 20, 21, 23, 24, 25]
  (.seq
    (.region [⟨some 76, .none, true, 4, .move (.tmp 3)⟩,
      ⟨some 77, .none, true, 4, .unOp .not 4 (.tmp 76)⟩,
      ⟨some 78, .none, true, 4, .move (.tmp 77)⟩,
      ⟨some 79, .some 78 true, true, 4, .move (.tmp 5)⟩,
      ⟨some 80, .some 78 true, true, 4, .unOp .not 4 (.tmp 79)⟩,
      ⟨some 81, .none, true, 4, .pick (.tmp 78) (.tmp 80) (.const (.bool false))⟩,
      ⟨some 82, .none, true, 4, .move (.tmp 81)⟩,
      ⟨some 83, .some 82 true, true, 4, .move (.tmp 7)⟩,
      ⟨some 84, .none, true, 4, .pick (.tmp 82) (.tmp 83) (.const (.bool false))⟩,
      ⟨some 85, .none, true, 4, .move (.tmp 84)⟩,
      ⟨some 86, .some 85 true, true, 23, .move (.tmp 6)⟩,
      ⟨some 87, .some 85 true, true, 48, .move (.tmp 1)⟩,
      ⟨some 88, .some 85 true, true, 48, .move (.tmp 1)⟩,
      ⟨some 89, .some 85 true, true, 48, .unOp .neg 48 (.tmp 88)⟩,
      ⟨some 90, .some 85 true, true, 23, .call { callee := .builtin .complex, args := #[.tmp 87, .tmp 89], argTypes := #[48, 48] }⟩,
      ⟨some 91, .some 85 true, true, 4, .binOp .eql 23 (.tmp 86) (.tmp 90) 23⟩,
      ⟨some 92, .none, true, 4, .pick (.tmp 85) (.tmp 91) (.const (.bool false))⟩,
      ⟨some 93, .none, true, 4, .move (.tmp 92)⟩,
      ⟨some 94, .some 93 true, true, 4, .move (.tmp 9)⟩,
      ⟨some 95, .some 93 true, true, 4, .unOp .not 4 (.tmp 94)⟩,
      ⟨some 96, .none, true, 4, .pick (.tmp 93) (.tmp 95) (.const (.bool false))⟩,
      ⟨some 97, .none, true, 4, .move (.tmp 96)⟩,
      ⟨some 98, .some 97 true, true, 4, .move (.tmp 11)⟩,
      ⟨some 99, .some 97 true, true, 4, .unOp .not 4 (.tmp 98)⟩,
      ⟨some 100, .none, true, 4, .pick (.tmp 97) (.tmp 99) (.const (.bool false))⟩,
      ⟨some 101, .none, true, 4, .move (.tmp 100)⟩,
      ⟨some 102, .some 101 true, true, 4, .move (.tmp 13)⟩,
      ⟨some 103, .none, true, 4, .pick (.tmp 101) (.tmp 102) (.const (.bool false))⟩,
      ⟨some 104, .none, true, 4, .move (.tmp 103)⟩,
      ⟨some 105, .some 104 true, true, 23, .move (.tmp 12)⟩,
      ⟨some 106, .some 104 true, true, 48, .move (.tmp 1)⟩,
      ⟨some 107, .some 104 true, true, 23, .call { callee := .builtin .complex, args := #[.tmp 106, .const (.float .f64 0)], argTypes := #[48, 48] }⟩,
      ⟨some 108, .some 104 true, true, 4, .binOp .eql 23 (.tmp 105) (.tmp 107) 23⟩,
      ⟨some 109, .none, true, 4, .pick (.tmp 104) (.tmp 108) (.const (.bool false))⟩,
      ⟨some 110, .none, true, 4, .move (.tmp 109)⟩,
      ⟨some 111, .some 110 true, true, 4, .move (.tmp 15)⟩,
      ⟨some 112, .some 110 true, true, 4, .unOp .not 4 (.tmp 111)⟩,
      ⟨some 113, .none, true, 4, .pick (.tmp 110) (.tmp 112) (.const (.bool false))⟩,
      ⟨some 114, .none, true, 4, .move (.tmp 113)⟩,
      ⟨some 115, .some 114 true, true, 4, .move (.tmp 18)⟩,
      ⟨some 116, .some 114 true, true, 4, .unOp .not 4 (.tmp 115)⟩,
      ⟨some 117, .none, true, 4, .pick (.tmp 114) (.tmp 116) (.const (.bool false))⟩,
      ⟨some 118, .none, true, 4, .move (.tmp 117)⟩,
      ⟨some 119, .some 118 true, true, 4, .move (.tmp 21)⟩,
      ⟨some 120, .none, true, 4, .pick (.tmp 118) (.tmp 119) (.const (.bool false))⟩,
      ⟨some 121, .none, true, 4, .move (.tmp 120)⟩,
      ⟨some 122, .some 121 true, true, 2, .move (.tmp 19)⟩,
      ⟨some 123, .some 121 true, true, 4, .binOp .eql 2 (.tmp 122) (.const (.int .i64 (-3))) 2⟩,
      ⟨some 124, .none, true, 4, .pick (.tmp 121) (.tmp 123) (.const (.bool false))⟩,
      ⟨some 125, .none, true, 4, .move (.tmp 124)⟩,
      ⟨some 126, .some 125 true, true, 2, .move (.tmp 20)⟩,
      ⟨some 127, .some 125 true, true, 4, .binOp .eql 2 (.tmp 126) (.const (.int .i64 4)) 2⟩,
      ⟨some 128, .none, true, 4, .pick (.tmp 125) (.tmp 127) (.const (.bool false))⟩,
      ⟨some 129, .none, true, 4, .move (.tmp 128)⟩,
      ⟨some 130, .some 129 true, true, 4, .move (.tmp 23)⟩,
      ⟨some 131, .some 129 true, true, 4, .unOp .not 4 (.tmp 130)⟩,
      ⟨some 132, .none, true, 4, .pick (.tmp 129) (.tmp 131) (.const (.bool false))⟩,
      ⟨some 133, .none, true, 4, .move (.tmp 132)⟩,
      ⟨some 134, .some 133 true, true, 4, .move (.tmp 25)⟩,
      ⟨some 135, .none, true, 4, .pick (.tmp 133) (.tmp 134) (.const (.bool false))⟩,
      ⟨some 136, .none, true, 4, .move (.tmp 135)⟩,
      ⟨some 137, .some 136 true, true, 34, .move (.tmp 24)⟩,
      ⟨some 138, .some 136 true, true, 4, .binOp .eql 34 (.tmp 137) (.const (.int .u64 8589934593)) 34⟩,
      ⟨some 139, .none, true, 4, .pick (.tmp 136) (.tmp 138) (.const (.bool false))⟩,
      ⟨some 140, .none, true, 4, .move (.tmp 139)⟩,
      ⟨some 141, .some 140 true, true, 2, .call { callee := .value (.func 25), args := #[.const (.complex .f64 4613937818241073152 4616189618054758400)], argTypes := #[23] }⟩,
      ⟨some 142, .some 140 true, true, 4, .binOp .eql 2 (.tmp 141) (.const (.int .i64 25)) 2⟩,
      ⟨some 143, .none, true, 4, .pick (.tmp 140) (.tmp 142) (.const (.bool false))⟩,
      ⟨some 144, .none, true, 4, .move (.tmp 143)⟩,
      ⟨some 145, .some 144 true, true, 2, .call { callee := .value (.func 25), args := #[.const (.complex .f64 4742290407625326592 0)], argTypes := #[23] }⟩,
      ⟨some 146, .some 144 true, true, 4, .binOp .eql 2 (.tmp 145) (.const (.int .i64 (-1))) 2⟩,
      ⟨some 147, .none, true, 4, .pick (.tmp 144) (.tmp 146) (.const (.bool false))⟩,
      ⟨some 148, .none, true, 4, .move (.tmp 147)⟩,
      ⟨some 149, .some 148 true, true, 23, .call { callee := .value (.func 16), args := #[.const (.complex .f64 4611686018427387904 4613937818241073152), .const (.int .i64 1)], argTypes := #[23, 3] }⟩,
      ⟨some 150, .some 148 true, true, 4, .binOp .eql 23 (.tmp 149) (.const (.complex .f64 13837309855095848960 4611686018427387904)) 23⟩,
      ⟨some 151, .none, true, 4, .pick (.tmp 148) (.tmp 150) (.const (.bool false))⟩,
      ⟨some 152, .none, true, 4, .move (.tmp 151)⟩,
      ⟨some 153, .some 152 true, true, 23, .call { callee := .value (.func 16), args := #[.const (.complex .f64 4611686018427387904 4613937818241073152), .const (.int .i64 (-1))], argTypes := #[23, 3] }⟩,
      ⟨some 154, .some 152 true, true, 4, .binOp .eql 23 (.tmp 153) (.const (.complex .f64 4613937818241073152 13835058055282163712)) 23⟩,
      ⟨some 155, .none, true, 4, .pick (.tmp 152) (.tmp 154) (.const (.bool false))⟩,
      ⟨some 156, .none, true, 4, .move (.tmp 155)⟩,
      ⟨some 157, .some 156 true, true, 23, .call { callee := .value (.func 16), args := #[.const (.complex .f64 4611686018427387904 4613937818241073152), .const (.int .i64 6)], argTypes := #[23, 3] }⟩,
      ⟨some 158, .some 156 true, true, 4, .binOp .eql 23 (.tmp 157) (.const (.complex .f64 13835058055282163712 13837309855095848960)) 23⟩,
      ⟨some 159, .none, true, 4, .pick (.tmp 156) (.tmp 158) (.const (.bool false))⟩,
      ⟨some 160, .none, true, 4, .move (.tmp 159)⟩,
      ⟨some 161, .some 160 true, true, 23, .call { callee := .value (.func 16), args := #[.const (.complex .f64 4602678819172646912 0), .const (.int .i64 1)], argTypes := #[23, 3] }⟩,
      ⟨some 162, .some 160 true, true, 4, .binOp .eql 23 (.tmp 161) (.const (.complex .f64 0 0)) 23⟩,
      ⟨some 163, .none, true, 4, .pick (.tmp 160) (.tmp 162) (.const (.bool false))⟩,
      ⟨some 164, .none, true, 4, .move (.tmp 163)⟩,
      ⟨some 165, .some 164 true, true, 23, .call { callee := .value (.func 20), args := #[.const (.slice none 0 0)], argTypes := #[31] }⟩,
      ⟨some 166, .some 164 true, true, 4, .binOp .eql 23 (.tmp 165) (.const (.complex .f64 0 0)) 23⟩,
      ⟨some 167, .none, true, 4, .pick (.tmp 164) (.tmp 166) (.const (.bool false))⟩,
      ⟨some 168, .none, true, 4, .move (.tmp 167)⟩,
      ⟨some 169, .some 168 true, true, 31, .buildSlice 31 2 #[(0, .const (.int .u64 0)), (1, .const (.int .u64 1))]⟩,
      ⟨some 170, .some 168 true, true, 23, .call { callee := .value (.func 20), args := #[.tmp 169], argTypes := #[31] }⟩,
      ⟨some 171, .some 168 true, true, 4, .binOp .eql 23 (.tmp 170) (.const (.complex .f64 4607182418800017408 0)) 23⟩,
      ⟨some 172, .none, true, 4, .pick (.tmp 168) (.tmp 171) (.const (.bool false))⟩,
      ⟨some 173, .none, true, 4, .move (.tmp 172)⟩,
      ⟨some 174, .some 173 true, true, 31, .buildSlice 31 2 #[(0, .const (.int .u64 1)), (1, .const (.int .u64 0))]⟩,
      ⟨some 175, .some 173 true, true, 23, .call { callee := .value (.func 20), args := #[.tmp 174], argTypes := #[31] }⟩,
      ⟨some 176, .some 173 true, true, 4, .binOp .eql 23 (.tmp 175) (.const (.complex .f64 0 4607182418800017408)) 23⟩,
      ⟨some 177, .none, true, 4, .pick (.tmp 173) (.tmp 176) (.const (.bool false))⟩,
      ⟨some 178, .none, true, 4, .move (.tmp 177)⟩,
      ⟨some 179, .some 178 true, true, 31, .buildSlice 31 1 #[(0, .const (.int .u64 65536))]⟩,
      ⟨some 180, .some 178 true, true, 23, .call { callee := .value (.func 20), args := #[.tmp 179], argTypes := #[31] }⟩,
      ⟨some 181, .some 178 true, true, 4, .binOp .eql 23 (.tmp 180) (.const (.complex .f64 0 4607182418800017408)) 23⟩,
      ⟨some 182, .none, true, 4, .pick (.tmp 178) (.tmp 181) (.const (.bool false))⟩,
      ⟨some 183, .none, true, 4, .move (.tmp 182)⟩,
      ⟨some 184, .some 183 true, true, 31, .buildSlice 31 1 #[(0, .const (.int .u64 4294967296))]⟩,
      ⟨some 185, .some 183 true, true, 23, .call { callee := .value (.func 20), args := #[.tmp 184], argTypes := #[31] }⟩,
      ⟨some 186, .some 183 true, true, 4, .binOp .eql 23 (.tmp 185) (.const (.complex .f64 4696837163864555520 0)) 23⟩,
      ⟨some 187, .none, true, 4, .pick (.tmp 183) (.tmp 186) (.const (.bool false))⟩,
      ⟨some 0, .none, true, 4, .assign (.tmp 187)⟩])
  .ret))))))))))))))))))))))))))))
theorem t_reevelaw1_GaussKnown : FnT Try.prog f_reevelaw1_GaussKnown rc_reevelaw1_GaussKnown [.tmp 0] 0 := ⟨⟨[], Try.f8, _, Try.func8, rfl, by kernel_rfl, by kernel_rfl, by kernel_rfl, rfl, by decide⟩, by kernel_rfl⟩
/-- reeve/reevelaw1.awake -/
abbrev f_reevelaw1_awake : FuncId := 14
def rc_reevelaw1_awake : RCode :=
  (.seq
    (.region [⟨some 0, .none, true, 4, .assign (.const (.bool false))⟩])
  (.keep []
  (.seq
    (.region [⟨some 4, .none, true, 24, .call { callee := .value (.func 17), args := #[.const (.complex .f64 4607182418800017408 4611686018427387904), .const (.complex .f64 4613937818241073152 13830554455654793216)], argTypes := #[23, 23] }⟩,
      ⟨some 3, .none, true, 24, .move (.tmp 4)⟩,
      ⟨some 5, .none, true, 23, .extract (.tmp 3) 0⟩,
      ⟨some 6, .none, true, 4, .extract (.tmp 3) 1⟩,
      ⟨some 1, .none, true, 23, .assign (.tmp 5)⟩,
      ⟨some 2, .none, true, 4, .assign (.tmp 6)⟩])
  (.keep [1, 2]
  (.seq
    (.region [⟨some 7, .none, true, 4, .move (.tmp 2)⟩,
      ⟨some 8, .none, true, 4, .move (.tmp 7)⟩,
      ⟨some 9, .some 8 true, true, 23, .move (.tmp 1)⟩,
      ⟨some 10, .some 8 true, true, 4, .binOp .eql 23 (.tmp 9) (.const (.complex .f64 4617315517961601024 4617315517961601024)) 23⟩,
      ⟨some 11, .none, true, 4, .pick (.tmp 8) (.tmp 10) (.const (.bool false))⟩,
      ⟨some 12, .none, true, 4, .move (.tmp 11)⟩,
      ⟨some 13, .some 12 true, true, 31, .buildSlice 31 1 #[(0, .const (.int .u64 1))]⟩,
      ⟨some 14, .some 12 true, true, 23, .call { callee := .value (.func 20), args := #[.tmp 13], argTypes := #[31] }⟩,
      ⟨some 15, .some 12 true, true, 4, .binOp .eql 23 (.tmp 14) (.const (.complex .f64 4607182418800017408 0)) 23⟩,
      ⟨some 16, .none, true, 4, .pick (.tmp 12) (.tmp 15) (.const (.bool false))⟩,
      ⟨some 17, .none, true, 4, .move (.tmp 16)⟩,
      ⟨some 18, .some 17 true, true, 23, .move (.tmp 1)⟩,
      ⟨some 19, .some 17 true, true, 4, .call { callee := .value (.func 19), args := #[.tmp 18], argTypes := #[23] }⟩,
      ⟨some 20, .none, true, 4, .pick (.tmp 17) (.tmp 19) (.const (.bool false))⟩,
      ⟨some 0, .none, true, 4, .assign (.tmp 20)⟩])
  .ret)))))
theorem t_reevelaw1_awake : FnT Try.prog f_reevelaw1_awake rc_reevelaw1_awake [.tmp 0] 0 := ⟨⟨[], Try.f14, _, Try.func14, rfl, by kernel_rfl, by kernel_rfl, by kernel_rfl, rfl, by decide⟩, by kernel_rfl⟩
/-- reeve/gauss.Of -/
abbrev f_gauss_Of : FuncId := 15
def rc_gauss_Of : RCode :=
  (.seq
    (.region [⟨some 4, .none, true, 23, .assign (.const (.complex .f64 0 0))⟩,
      ⟨some 5, .none, true, 4, .assign (.const (.bool false))⟩])
  (.keep [0, 1]
  (.seq
    (.seq
      (.region [⟨some 6, .none, true, 2, .move (.tmp 0)⟩,
        ⟨some 7, .none, true, 4, .call { callee := .value (.func 46), args := #[.tmp 6], argTypes := #[2] }⟩,
        ⟨some 8, .none, true, 4, .unOp .not 4 (.tmp 7)⟩,
        ⟨some 9, .none, true, 4, .move (.tmp 8)⟩,
        ⟨some 10, .some 9 false, true, 2, .move (.tmp 1)⟩,
        ⟨some 11, .some 9 false, true, 4, .call { callee := .value (.func 46), args := #[.tmp 10], argTypes := #[2] }⟩,
        ⟨some 12, .some 9 false, true, 4, .unOp .not 4 (.tmp 11)⟩,
        ⟨some 13, .none, true, 4, .pick (.tmp 9) (.const (.bool true)) (.tmp 12)⟩])
    (.keep [0, 1, 13]
    (.cond (.tmp 13)
      (.seq
        (.region [⟨some 4, .none, true, 23, .assign (.const (.complex .f64 0 0))⟩,
          ⟨some 5, .none, true, 4, .assign (.const (.bool false))⟩])
      .ret)
      .skip)))
  (.seq
    (.region [⟨some 14, .none, true, 2, .move (.tmp 0)⟩,
      ⟨some 15, .none, true, 48, .convert 2 48 (.tmp 14)⟩,
      ⟨some 16, .none, true, 2, .move (.tmp 1)⟩,
      ⟨some 17, .none, true, 48, .convert 2 48 (.tmp 16)⟩,
      ⟨some 18, .none, true, 23, .call { callee := .builtin .complex, args := #[.tmp 15, .tmp 17], argTypes := #[48, 48] }⟩,
      ⟨some 4, .none, true, 23, .assign (.tmp 18)⟩,
      ⟨some 5, .none, true, 4, .assign (.const (.bool true))⟩])
  .ret))))
theorem t_gauss_Of : FnT Try.prog f_gauss_Of rc_gauss_Of [.tmp 4, .tmp 5] 2 := ⟨⟨[], Try.f15, _, Try.func15, rfl, by kernel_rfl, by kernel_rfl, by kernel_rfl, rfl, by decide⟩, by kernel_rfl⟩
/-- reeve/gauss.Turn -/
abbrev f_gauss_Turn : FuncId := 16
def rc_gauss_Turnl0 : RCode :=
  (.seq
    (.region [⟨some 21, .none, true, 4, .binOp .lss 3 (.tmp 20) (.tmp 19) 3⟩])
  (.keep [5, 6, 19, 20, 21]
  (.seq
    (.cond (.tmp 21)
      .skip
      (.exit 0))
  (.keep [5, 6, 19, 20]
  (.seq
    (.block 1
      (.region [⟨some 22, .none, true, 2, .move (.tmp 6)⟩,
        ⟨some 23, .none, true, 2, .unOp .neg 2 (.tmp 22)⟩,
        ⟨some 24, .none, true, 2, .move (.tmp 5)⟩,
        ⟨some 5, .none, true, 2, .assign (.tmp 23)⟩,
        ⟨some 6, .none, true, 2, .assign (.tmp 24)⟩]))
  (.keep [5, 6, 19, 20]
  (.region [⟨some 25, .none, true, 3, .binOp .add 3 (.tmp 20) (.const (.int .i64 1)) 3⟩,
    ⟨some 20, .none, true, 3, .move (.tmp 25)⟩])))))))
def rc_gauss_Turn : RCode :=
  (.seq
    (.region [⟨some 4, .none, true, 23, .assign (.const (.complex .f64 0 0))⟩])
  (.keep [0, 1]
  (.seq
    (.region [⟨some 9, .none, true, 23, .move (.tmp 0)⟩,
      ⟨some 10, .none, true, 37, .call { callee := .value (.func 21), args := #[.tmp 9], argTypes := #[23] }⟩,
      ⟨some 8, .none, true, 37, .move (.tmp 10)⟩,
      ⟨some 11, .none, true, 2, .extract (.tmp 8) 0⟩,
      ⟨some 12, .none, true, 2, .extract (.tmp 8) 1⟩,
      ⟨some 13, .none, true, 4, .extract (.tmp 8) 2⟩,
      ⟨some 5, .none, true, 2, .assign (.tmp 11)⟩,
      ⟨some 6, .none, true, 2, .assign (.tmp 12)⟩,
      ⟨some 7, .none, true, 4, .assign (.tmp 13)⟩])
  (.keep [1, 5, 6, 7]
  (.seq
    (.seq
      (.region [⟨some 14, .none, true, 4, .move (.tmp 7)⟩,
        ⟨some 15, .none, true, 4, .unOp .not 4 (.tmp 14)⟩])
    (.keep [1, 5, 6, 15]
    (.cond (.tmp 15)
      (.seq
        (.region [⟨some 4, .none, true, 23, .assign (.const (.complex .f64 0 0))⟩])
      .ret)
      .skip)))
  (.seq
    (.seq
      (.region [⟨some 16, .none, true, 3, .move (.tmp 1)⟩,
        ⟨some 17, .none, true, 3, .binOp .rem 3 (.tmp 16) (.const (.int .i64 4)) 3⟩,
        ⟨some 18, .none, true, 3, .binOp .add 3 (.tmp 17) (.const (.int .i64 4)) 3⟩,
        ⟨some 19, .none, true, 3, .binOp .rem 3 (.tmp 18) (.const (.int .i64 4)) 3⟩,
        ⟨some 20, .none, true, 3, .move (.const (.int .i64 0))⟩])
    (.keep [5, 6, 19, 20]
    (.block 0
      (.loop [5, 6, 19, 20] rc_gauss_Turnl0))))
  (.seq
    (.region [⟨some 27, .none, true, 2, .move (.tmp 5)⟩,
      ⟨some 28, .none, true, 2, .move (.tmp 6)⟩,
      ⟨some 29, .none, true, 24, .call { callee := .value (.func 15), args := #[.tmp 27, .tmp 28], argTypes := #[2, 2] }⟩,
      ⟨some 26, .none, true, 24, .move (.tmp 29)⟩,
      ⟨some 30, .none, true, 23, .extract (.tmp 26) 0⟩,
      ⟨some 31, .none, true, 4, .extract (.tmp 26) 1⟩,
      ⟨some 0, .none, true, 23, .assign (.tmp 30)⟩])
  (.keep [0]
  (.seq
    (.region [⟨some 32, .none, true, 23, .move (.tmp 0)⟩,
      ⟨some 4, .none, true, 23, .assign (.tmp 32)⟩])
  .ret)))))))))
theorem t_gauss_Turn : FnT Try.prog f_gauss_Turn rc_gauss_Turn [.tmp 4] 2 := ⟨⟨[], Try.f16, _, Try.func16, rfl, by kernel_rfl, by kernel_rfl, by kernel_rfl, rfl, by decide⟩, by kernel_rfl⟩
/-- reeve/gauss.Mul -/
abbrev f_gauss_Mul : FuncId := 17
def rc_gauss_Mul : RCode :=
  (.seq
    (.region [⟨some 4, .none, true, 23, .assign (.const (.complex .f64 0 0))⟩,
      ⟨some 5, .none, true, 4, .assign (.const (.bool false))⟩])
  (.keep [0, 1]
  (.seq
    (.region [⟨some 13, .none, true, 23, .move (.tmp 0)⟩,
      ⟨some 14, .none, true, 37, .call { callee := .value (.func 21), args := #[.tmp 13], argTypes := #[23] }⟩,
      ⟨some 12, .none, true, 37, .move (.tmp 14)⟩,
      ⟨some 15, .none, true, 2, .extract (.tmp 12) 0⟩,
      ⟨some 16, .none, true, 2, .extract (.tmp 12) 1⟩,
      ⟨some 17, .none, true, 4, .extract (.tmp 12) 2⟩,
      ⟨some 6, .none, true, 2, .assign (.tmp 15)⟩,
      ⟨some 7, .none, true, 2, .assign (.tmp 16)⟩,
      ⟨some 8, .none, true, 4, .assign (.tmp 17)⟩])
  (.keep [1, 6, 7, 8]
  (.seq
    (.region [⟨some 19, .none, true, 23, .move (.tmp 1)⟩,
      ⟨some 20, .none, true, 37, .call { callee := .value (.func 21), args := #[.tmp 19], argTypes := #[23] }⟩,
      ⟨some 18, .none, true, 37, .move (.tmp 20)⟩,
      ⟨some 21, .none, true, 2, .extract (.tmp 18) 0⟩,
      ⟨some 22, .none, true, 2, .extract (.tmp 18) 1⟩,
      ⟨some 23, .none, true, 4, .extract (.tmp 18) 2⟩,
      ⟨some 9, .none, true, 2, .assign (.tmp 21)⟩,
      ⟨some 10, .none, true, 2, .assign (.tmp 22)⟩,
      ⟨some 11, .none, true, 4, .assign (.tmp 23)⟩])
  (.keep [6, 7, 8, 9, 10, 11]
  (.seq
    (.seq
      (.region [⟨some 24, .none, true, 4, .move (.tmp 8)⟩,
        ⟨some 25, .none, true, 4, .unOp .not 4 (.tmp 24)⟩,
        ⟨some 26, .none, true, 4, .move (.tmp 25)⟩,
        ⟨some 27, .some 26 false, true, 4, .move (.tmp 11)⟩,
        ⟨some 28, .some 26 false, true, 4, .unOp .not 4 (.tmp 27)⟩,
        ⟨some 29, .none, true, 4, .pick (.tmp 26) (.const (.bool true)) (.tmp 28)⟩,
        ⟨some 30, .none, true, 4, .move (.tmp 29)⟩,
        ⟨some 31, .some 30 false, true, 2, .move (.tmp 6)⟩,
        ⟨some 32, .some 30 false, true, 2, .move (.tmp 7)⟩,
        ⟨some 33, .some 30 false, true, 4, .call { callee := .value (.func 47), args := #[.tmp 31, .tmp 32], argTypes := #[2, 2] }⟩,
        ⟨some 34, .some 30 false, true, 4, .unOp .not 4 (.tmp 33)⟩,
        ⟨some 35, .none, true, 4, .pick (.tmp 30) (.const (.bool true)) (.tmp 34)⟩,
        ⟨some 36, .none, true, 4, .move (.tmp 35)⟩,
        ⟨some 37, .some 36 false, true, 2, .move (.tmp 9)⟩,
        ⟨some 38, .some 36 false, true, 2, .move (.tmp 10)⟩,
        ⟨some 39, .some 36 false, true, 4, .call { callee := .value (.func 47), args := #[.tmp 37, .tmp 38], argTypes := #[2, 2] }⟩,
        ⟨some 40, .some 36 false, true, 4, .unOp .not 4 (.tmp 39)⟩,
        ⟨some 41, .none, true, 4, .pick (.tmp 36) (.const (.bool true)) (.tmp 40)⟩])
    (.keep [6, 7, 9, 10, 41]
    (.cond (.tmp 41)
      (.seq
        (.region [⟨some 4, .none, true, 23, .assign (.const (.complex .f64 0 0))⟩,
          ⟨some 5, .none, true, 4, .assign (.const (.bool false))⟩])
      .ret)
      .skip)))
  (.seq
    (.region [⟨some 42, .none, true, 2, .move (.tmp 6)⟩,
      ⟨some 43, .none, true, 2, .move (.tmp 9)⟩,
      ⟨some 44, .none, true, 2, .binOp .mul 2 (.tmp 42) (.tmp 43) 2⟩,
      ⟨some 45, .none, true, 2, .move (.tmp 7)⟩,
      ⟨some 46, .none, true, 2, .move (.tmp 10)⟩,
      ⟨some 47, .none, true, 2, .binOp .mul 2 (.tmp 45) (.tmp 46) 2⟩,
      ⟨some 48, .none, true, 2, .binOp .sub 2 (.tmp 44) (.tmp 47) 2⟩,
      ⟨some 49, .none, true, 2, .move (.tmp 6)⟩,
      ⟨some 50, .none, true, 2, .move (.tmp 10)⟩,
      ⟨some 51, .none, true, 2, .binOp .mul 2 (.tmp 49) (.tmp 50) 2⟩,
      ⟨some 52, .none, true, 2, .move (.tmp 7)⟩,
      ⟨some 53, .none, true, 2, .move (.tmp 9)⟩,
      ⟨some 54, .none, true, 2, .binOp .mul 2 (.tmp 52) (.tmp 53) 2⟩,
      ⟨some 55, .none, true, 2, .binOp .add 2 (.tmp 51) (.tmp 54) 2⟩,
      ⟨some 56, .none, true, 24, .call { callee := .value (.func 15), args := #[.tmp 48, .tmp 55], argTypes := #[2, 2] }⟩,
      ⟨some 57, .none, true, 23, .extract (.tmp 56) 0⟩,
      ⟨some 58, .none, true, 4, .extract (.tmp 56) 1⟩,
      ⟨some 4, .none, true, 23, .assign (.tmp 57)⟩,
      ⟨some 5, .none, true, 4, .assign (.tmp 58)⟩])
  .ret))))))))
theorem t_gauss_Mul : FnT Try.prog f_gauss_Mul rc_gauss_Mul [.tmp 4, .tmp 5] 2 := ⟨⟨[], Try.f17, _, Try.func17, rfl, by kernel_rfl, by kernel_rfl, by kernel_rfl, rfl, by decide⟩, by kernel_rfl⟩
/-- reeve/gauss.Whole -/
abbrev f_gauss_Whole : FuncId := 19
def rc_gauss_Whole : RCode :=
  (.seq
    (.region [⟨some 2, .none, true, 4, .assign (.const (.bool false))⟩])
  (.keep [0]
  (.seq
    (.region [⟨some 7, .none, true, 23, .move (.tmp 0)⟩,
      ⟨some 8, .none, true, 37, .call { callee := .value (.func 21), args := #[.tmp 7], argTypes := #[23] }⟩,
      ⟨some 6, .none, true, 37, .move (.tmp 8)⟩,
      ⟨some 9, .none, true, 2, .extract (.tmp 6) 0⟩,
      ⟨some 10, .none, true, 2, .extract (.tmp 6) 1⟩,
      ⟨some 11, .none, true, 4, .extract (.tmp 6) 2⟩,
      ⟨some 3, .none, true, 2, .assign (.tmp 9)⟩,
      ⟨some 4, .none, true, 2, .assign (.tmp 10)⟩,
      ⟨some 5, .none, true, 4, .assign (.tmp 11)⟩])
  (.keep [5]
  (.seq
    (.region [⟨some 12, .none, true, 4, .move (.tmp 5)⟩,
      ⟨some 2, .none, true, 4, .assign (.tmp 12)⟩])
  .ret)))))
theorem t_gauss_Whole : FnT Try.prog f_gauss_Whole rc_gauss_Whole [.tmp 2] 1 := ⟨⟨[], Try.f19, _, Try.func19, rfl, by kernel_rfl, by kernel_rfl, by kernel_rfl, rfl, by decide⟩, by kernel_rfl⟩
/-- reeve/gauss.Spin -/
abbrev f_gauss_Spin : FuncId := 20
def rc_gauss_Spinl0 : RCode :=
  (.seq
    (.region [⟨some 12, .none, true, 0, .binOp .lss 3 (.tmp 11) (.tmp 10) 3⟩])
  (.keep [3, 9, 10, 11, 12]
  (.seq
    (.cond (.tmp 12)
      .skip
      (.exit 0))
  (.keep [3, 9, 10, 11]
  (.seq
    (.block 1
      (.seq
        (.region [⟨some 13, .none, true, 0, .indexAddr 31 (.tmp 9) (.tmp 11)⟩,
          ⟨some 14, .none, true, 34, .load 34 (.tmp 13)⟩,
          ⟨some 5, .none, true, 34, .assign (.tmp 14)⟩])
      (.keep [3, 5, 9, 10, 11]
      (.seq
        (.region [⟨some 16, .none, true, 23, .move (.tmp 3)⟩,
          ⟨some 17, .none, true, 23, .call { callee := .value (.func 16), args := #[.tmp 16, .const (.int .i64 1)], argTypes := #[23, 3] }⟩,
          ⟨some 18, .none, true, 37, .call { callee := .value (.func 21), args := #[.tmp 17], argTypes := #[23] }⟩,
          ⟨some 15, .none, true, 37, .move (.tmp 18)⟩,
          ⟨some 19, .none, true, 2, .extract (.tmp 15) 0⟩,
          ⟨some 20, .none, true, 2, .extract (.tmp 15) 1⟩,
          ⟨some 21, .none, true, 4, .extract (.tmp 15) 2⟩,
          ⟨some 6, .none, true, 2, .assign (.tmp 19)⟩,
          ⟨some 7, .none, true, 2, .assign (.tmp 20)⟩,
          ⟨some 8, .none, true, 4, .assign (.tmp 21)⟩])
      (.keep [5, 6, 7, 9, 10, 11]
      (.seq
        (.region [⟨some 22, .none, true, 2, .move (.tmp 6)⟩,
          ⟨some 23, .none, true, 34, .move (.tmp 5)⟩,
          ⟨some 24, .none, true, 32, .convert 34 32 (.tmp 23)⟩,
          ⟨some 25, .none, true, 2, .convert 32 2 (.tmp 24)⟩,
          ⟨some 26, .none, true, 34, .move (.tmp 5)⟩,
          ⟨some 27, .none, true, 34, .binOp .shr 34 (.tmp 26) (.const (.int .u64 32)) 33⟩,
          ⟨some 28, .none, true, 32, .convert 34 32 (.tmp 27)⟩,
          ⟨some 29, .none, true, 2, .convert 32 2 (.tmp 28)⟩,
          ⟨some 30, .none, true, 2, .binOp .sub 2 (.tmp 25) (.tmp 29) 2⟩,
          ⟨some 31, .none, true, 2, .binOp .add 2 (.tmp 22) (.tmp 30) 2⟩,
          ⟨some 6, .none, true, 2, .assign (.tmp 31)⟩])
      (.keep [5, 6, 7, 9, 10, 11]
      (.seq
        (.region [⟨some 32, .none, true, 2, .move (.tmp 7)⟩,
          ⟨some 33, .none, true, 34, .move (.tmp 5)⟩,
          ⟨some 34, .none, true, 34, .binOp .shr 34 (.tmp 33) (.const (.int .u64 16)) 33⟩,
          ⟨some 35, .none, true, 32, .convert 34 32 (.tmp 34)⟩,
          ⟨some 36, .none, true, 2, .convert 32 2 (.tmp 35)⟩,
          ⟨some 37, .none, true, 34, .move (.tmp 5)⟩,
          ⟨some 38, .none, true, 34, .binOp .shr 34 (.tmp 37) (.const (.int .u64 48)) 33⟩,
          ⟨some 39, .none, true, 32, .convert 34 32 (.tmp 38)⟩,
          ⟨some 40, .none, true, 2, .convert 32 2 (.tmp 39)⟩,
          ⟨some 41, .none, true, 2, .binOp .sub 2 (.tmp 36) (.tmp 40) 2⟩,
          ⟨some 42, .none, true, 2, .binOp .add 2 (.tmp 32) (.tmp 41) 2⟩,
          ⟨some 7, .none, true, 2, .assign (.tmp 42)⟩])
      (.keep [6, 7, 9, 10, 11]
      (.region [⟨some 44, .none, true, 2, .move (.tmp 6)⟩,
        ⟨some 45, .none, true, 2, .call { callee := .value (.func 48), args := #[.tmp 44], argTypes := #[2] }⟩,
        ⟨some 46, .none, true, 2, .move (.tmp 7)⟩,
        ⟨some 47, .none, true, 2, .call { callee := .value (.func 48), args := #[.tmp 46], argTypes := #[2] }⟩,
        ⟨some 48, .none, true, 24, .call { callee := .value (.func 15), args := #[.tmp 45, .tmp 47], argTypes := #[2, 2] }⟩,
        ⟨some 43, .none, true, 24, .move (.tmp 48)⟩,
        ⟨some 49, .none, true, 23, .extract (.tmp 43) 0⟩,
        ⟨some 50, .none, true, 4, .extract (.tmp 43) 1⟩,
        ⟨some 3, .none, true, 23, .assign (.tmp 49)⟩]))))))))))
  (.keep [3, 9, 10, 11]
  (.region [⟨some 51, .none, true, 3, .binOp .add 3 (.tmp 11) (.const (.int .i64 1)) 3⟩,
    ⟨some 11, .none, true, 3, .move (.tmp 51)⟩])))))))
def rc_gauss_Spin : RCode :=
  (.seq
    (.region [⟨some 2, .none, true, 23, .assign (.const (.complex .f64 0 0))⟩])
  (.keep [0]
  (.seq
    (.region [⟨some 3, .none, true, 23, .assign (.const (.complex .f64 0 0))⟩])
  (.keep [0, 3]
  (.seq
    (.seq
      (.region [⟨some 9, .none, true, 31, .move (.tmp 0)⟩,
        ⟨some 10, .none, true, 3, .call { callee := .builtin .len, args := #[.tmp 9], argTypes := #[31] }⟩,
        ⟨some 11, .none, true, 3, .move (.const (.int .i64 0))⟩])
    (.keep [3, 9, 10, 11]
    (.block 0
      (.loop [3, 9, 10, 11] rc_gauss_Spinl0))))
  (.seq
    (.region [⟨some 52, .none, true, 23, .move (.tmp 3)⟩,
      ⟨some 2, .none, true, 23, .assign (.tmp 52)⟩])
  .ret))))))
theorem t_gauss_Spin : FnT Try.prog f_gauss_Spin rc_gauss_Spin [.tmp 2] 1 := ⟨⟨[], Try.f20, _, Try.func20, rfl, by kernel_rfl, by kernel_rfl, by kernel_rfl, rfl, by decide⟩, by kernel_rfl⟩
/-- reeve/gauss.Parts -/
abbrev f_gauss_Parts : FuncId := 21
def rc_gauss_Parts : RCode :=
  (.seq
    (.region [⟨some 2, .none, true, 2, .assign (.const (.int .i64 0))⟩,
      ⟨some 3, .none, true, 2, .assign (.const (.int .i64 0))⟩,
      ⟨some 4, .none, true, 4, .assign (.const (.bool false))⟩])
  (.keep [0]
  (.seq
    (.region [⟨some 8, .none, true, 23, .move (.tmp 0)⟩,
      ⟨some 9, .none, true, 48, .call { callee := .builtin .real, args := #[.tmp 8], argTypes := #[23] }⟩,
      ⟨some 10, .none, true, 77, .call { callee := .value (.func 49), args := #[.tmp 9], argTypes := #[48] }⟩,
      ⟨some 7, .none, true, 77, .move (.tmp 10)⟩,
      ⟨some 11, .none, true, 2, .extract (.tmp 7) 0⟩,
      ⟨some 12, .none, true, 4, .extract (.tmp 7) 1⟩,
      ⟨some 2, .none, true, 2, .assign (.tmp 11)⟩,
      ⟨some 5, .none, true, 4, .assign (.tmp 12)⟩])
  (.keep [0, 2, 5]
  (.seq
    (.region [⟨some 14, .none, true, 23, .move (.tmp 0)⟩,
      ⟨some 15, .none, true, 48, .call { callee := .builtin .imag, args := #[.tmp 14], argTypes := #[23] }⟩,
      ⟨some 16, .none, true, 77, .call { callee := .value (.func 49), args := #[.tmp 15], argTypes := #[48] }⟩,
      ⟨some 13, .none, true, 77, .move (.tmp 16)⟩,
      ⟨some 17, .none, true, 2, .extract (.tmp 13) 0⟩,
      ⟨some 18, .none, true, 4, .extract (.tmp 13) 1⟩,
      ⟨some 3, .none, true, 2, .assign (.tmp 17)⟩,
      ⟨some 6, .none, true, 4, .assign (.tmp 18)⟩])
  (.keep [2, 3, 5, 6]
  (.seq
    (.seq
      (.region [⟨some 19, .none, true, 4, .move (.tmp 5)⟩,
        ⟨some 20, .none, true, 4, .unOp .not 4 (.tmp 19)⟩,
        ⟨some 21, .none, true, 4, .move (.tmp 20)⟩,
        ⟨some 22, .some 21 false, true, 4, .move (.tmp 6)⟩,
        ⟨some 23, .some 21 false, true, 4, .unOp .not 4 (.tmp 22)⟩,
        ⟨some 24, .none, true, 4, .pick (.tmp 21) (.const (.bool true)) (.tmp 23)⟩])
    (.keep [2, 3, 24]
    (.cond (.tmp 24)
      (.seq
        (.region [⟨some 2, .none, true, 2, .assign (.const (.int .i64 0))⟩,
          ⟨some 3, .none, true, 2, .assign (.const (.int .i64 0))⟩,
          ⟨some 4, .none, true, 4, .assign (.const (.bool false))⟩])
      .ret)
      .skip)))
  (.seq
    (.region [⟨some 25, .none, true, 2, .move (.tmp 2)⟩,
      ⟨some 26, .none, true, 2, .move (.tmp 3)⟩,
      ⟨some 2, .none, true, 2, .assign (.tmp 25)⟩,
      ⟨some 3, .none, true, 2, .assign (.tmp 26)⟩,
      ⟨some 4, .none, true, 4, .assign (.const (.bool true))⟩])
  .ret))))))))
theorem t_gauss_Parts : FnT Try.prog f_gauss_Parts rc_gauss_Parts [.tmp 2, .tmp 3, .tmp 4] 1 := ⟨⟨[], Try.f21, _, Try.func21, rfl, by kernel_rfl, by kernel_rfl, by kernel_rfl, rfl, by decide⟩, by kernel_rfl⟩
/-- reeve/gauss.Word -/
abbrev f_gauss_Word : FuncId := 23
def rc_gauss_Word : RCode :=
  (.seq
    (.region [⟨some 2, .none, true, 34, .assign (.const (.int .u64 0))⟩,
      ⟨some 3, .none, true, 4, .assign (.const (.bool false))⟩])
  (.keep [0]
  (.seq
    (.region [⟨some 8, .none, true, 23, .move (.tmp 0)⟩,
      ⟨some 9, .none, true, 37, .call { callee := .value (.func 21), args := #[.tmp 8], argTypes := #[23] }⟩,
      ⟨some 7, .none, true, 37, .move (.tmp 9)⟩,
      ⟨some 10, .none, true, 2, .extract (.tmp 7) 0⟩,
      ⟨some 11, .none, true, 2, .extract (.tmp 7) 1⟩,
      ⟨some 12, .none, true, 4, .extract (.tmp 7) 2⟩,
      ⟨some 4, .none, true, 2, .assign (.tmp 10)⟩,
      ⟨some 5, .none, true, 2, .assign (.tmp 11)⟩,
      ⟨some 6, .none, true, 4, .assign (.tmp 12)⟩])
  (.keep [4, 5, 6]
  (.seq
    (.seq
      (.region [⟨some 13, .none, true, 4, .move (.tmp 6)⟩,
        ⟨some 14, .none, true, 4, .unOp .not 4 (.tmp 13)⟩,
        ⟨some 15, .none, true, 4, .move (.tmp 14)⟩,
        ⟨some 16, .some 15 false, true, 2, .move (.tmp 4)⟩,
        ⟨some 17, .some 15 false, true, 4, .binOp .lss 2 (.tmp 16) (.const (.int .i64 0)) 2⟩,
        ⟨some 18, .none, true, 4, .pick (.tmp 15) (.const (.bool true)) (.tmp 17)⟩,
        ⟨some 19, .none, true, 4, .move (.tmp 18)⟩,
        ⟨some 20, .some 19 false, true, 2, .move (.tmp 4)⟩,
        ⟨some 21, .some 19 false, true, 4, .binOp .gtr 2 (.tmp 20) (.const (.int .i64 4294967295)) 2⟩,
        ⟨some 22, .none, true, 4, .pick (.tmp 19) (.const (.bool true)) (.tmp 21)⟩,
        ⟨some 23, .none, true, 4, .move (.tmp 22)⟩,
        ⟨some 24, .some 23 false, true, 2, .move (.tmp 5)⟩,
        ⟨some 25, .some 23 false, true, 4, .binOp .lss 2 (.tmp 24) (.const (.int .i64 0)) 2⟩,
        ⟨some 26, .none, true, 4, .pick (.tmp 23) (.const (.bool true)) (.tmp 25)⟩,
        ⟨some 27, .none, true, 4, .move (.tmp 26)⟩,
        ⟨some 28, .some 27 false, true, 2, .move (.tmp 5)⟩,
        ⟨some 29, .some 27 false, true, 4, .binOp .gtr 2 (.tmp 28) (.const (.int .i64 4294967295)) 2⟩,
        ⟨some 30, .none, true, 4, .pick (.tmp 27) (.const (.bool true)) (.tmp 29)⟩])
    (.keep [4, 5, 30]
    (.cond (.tmp 30)
      (.seq
        (.region [⟨some 2, .none, true, 34, .assign (.const (.int .u64 0))⟩,
          ⟨some 3, .none, true, 4, .assign (.const (.bool false))⟩])
      .ret)
      .skip)))
  (.seq
    (.region [⟨some 31, .none, true, 2, .move (.tmp 5)⟩,
      ⟨some 32, .none, true, 34, .convert 2 34 (.tmp 31)⟩,
      ⟨some 33, .none, true, 34, .binOp .shl 34 (.tmp 32) (.const (.int .u64 32)) 33⟩,
      ⟨some 34, .none, true, 2, .move (.tmp 4)⟩,
      ⟨some 35, .none, true, 34, .convert 2 34 (.tmp 34)⟩,
      ⟨some 36, .none, true, 34, .binOp .or 34 (.tmp 33) (.tmp 35) 34⟩,
      ⟨some 2, .none, true, 34, .assign (.tmp 36)⟩,
      ⟨some 3, .none, true, 4, .assign (.const (.bool true))⟩])
  .ret))))))
theorem t_gauss_Word : FnT Try.prog f_gauss_Word rc_gauss_Word [.tmp 2, .tmp 3] 1 := ⟨⟨[], Try.f23, _, Try.func23, rfl, by kernel_rfl, by kernel_rfl, by kernel_rfl, rfl, by decide⟩, by kernel_rfl⟩
/-- reeve/gauss.Add -/
abbrev f_gauss_Add : FuncId := 24
def rc_gauss_Add : RCode :=
  (.seq
    (.region [⟨some 4, .none, true, 23, .assign (.const (.complex .f64 0 0))⟩,
      ⟨some 5, .none, true, 4, .assign (.const (.bool false))⟩])
  (.keep [0, 1]
  (.seq
    (.seq
      (.region [⟨some 12, .none, true, 23, .move (.tmp 0)⟩,
        ⟨some 13, .none, true, 4, .call { callee := .value (.func 19), args := #[.tmp 12], argTypes := #[23] }⟩,
        ⟨some 14, .none, true, 4, .unOp .not 4 (.tmp 13)⟩,
        ⟨some 15, .none, true, 4, .move (.tmp 14)⟩,
        ⟨some 16, .some 15 false, true, 23, .move (.tmp 1)⟩,
        ⟨some 17, .some 15 false, true, 4, .call { callee := .value (.func 19), args := #[.tmp 16], argTypes := #[23] }⟩,
        ⟨some 18, .some 15 false, true, 4, .unOp .not 4 (.tmp 17)⟩,
        ⟨some 19, .none, true, 4, .pick (.tmp 15) (.const (.bool true)) (.tmp 18)⟩])
    (.keep [0, 1, 19]
    (.cond (.tmp 19)
      (.seq
        (.region [⟨some 4, .none, true, 23, .assign (.const (.complex .f64 0 0))⟩,
          ⟨some 5, .none, true, 4, .assign (.const (.bool false))⟩])
      .ret)
      .skip)))
  (.seq
    (.region [⟨some 21, .none, true, 23, .move (.tmp 0)⟩,
      ⟨some 22, .none, true, 37, .call { callee := .value (.func 21), args := #[.tmp 21], argTypes := #[23] }⟩,
      ⟨some 20, .none, true, 37, .move (.tmp 22)⟩,
      ⟨some 23, .none, true, 2, .extract (.tmp 20) 0⟩,
      ⟨some 24, .none, true, 2, .extract (.tmp 20) 1⟩,
      ⟨some 25, .none, true, 4, .extract (.tmp 20) 2⟩,
      ⟨some 6, .none, true, 2, .assign (.tmp 23)⟩,
      ⟨some 7, .none, true, 2, .assign (.tmp 24)⟩,
      ⟨some 8, .none, true, 4, .assign (.tmp 25)⟩])
  (.keep [1, 6, 7]
  (.seq
    (.region [⟨some 27, .none, true, 23, .move (.tmp 1)⟩,
      ⟨some 28, .none, true, 37, .call { callee := .value (.func 21), args := #[.tmp 27], argTypes := #[23] }⟩,
      ⟨some 26, .none, true, 37, .move (.tmp 28)⟩,
      ⟨some 29, .none, true, 2, .extract (.tmp 26) 0⟩,
      ⟨some 30, .none, true, 2, .extract (.tmp 26) 1⟩,
      ⟨some 31, .none, true, 4, .extract (.tmp 26) 2⟩,
      ⟨some 9, .none, true, 2, .assign (.tmp 29)⟩,
      ⟨some 10, .none, true, 2, .assign (.tmp 30)⟩,
      ⟨some 11, .none, true, 4, .assign (.tmp 31)⟩])
  (.keep [6, 7, 9, 10]
  (.seq
    (.region [⟨some 32, .none, true, 2, .move (.tmp 6)⟩,
      ⟨some 33, .none, true, 2, .move (.tmp 9)⟩,
      ⟨some 34, .none, true, 2, .binOp .add 2 (.tmp 32) (.tmp 33) 2⟩,
      ⟨some 35, .none, true, 2, .move (.tmp 7)⟩,
      ⟨some 36, .none, true, 2, .move (.tmp 10)⟩,
      ⟨some 37, .none, true, 2, .binOp .add 2 (.tmp 35) (.tmp 36) 2⟩,
      ⟨some 38, .none, true, 24, .call { callee := .value (.func 15), args := #[.tmp 34, .tmp 37], argTypes := #[2, 2] }⟩,
      ⟨some 39, .none, true, 23, .extract (.tmp 38) 0⟩,
      ⟨some 40, .none, true, 4, .extract (.tmp 38) 1⟩,
      ⟨some 4, .none, true, 23, .assign (.tmp 39)⟩,
      ⟨some 5, .none, true, 4, .assign (.tmp 40)⟩])
  .ret))))))))
theorem t_gauss_Add : FnT Try.prog f_gauss_Add rc_gauss_Add [.tmp 4, .tmp 5] 2 := ⟨⟨[], Try.f24, _, Try.func24, rfl, by kernel_rfl, by kernel_rfl, by kernel_rfl, rfl, by decide⟩, by kernel_rfl⟩
/-- reeve/gauss.Norm -/
abbrev f_gauss_Norm : FuncId := 25
def rc_gauss_Norm : RCode :=
  (.seq
    (.region [⟨some 2, .none, true, 2, .assign (.const (.int .i64 0))⟩])
  (.keep [0]
  (.seq
    (.region [⟨some 7, .none, true, 23, .move (.tmp 0)⟩,
      ⟨some 8, .none, true, 37, .call { callee := .value (.func 21), args := #[.tmp 7], argTypes := #[23] }⟩,
      ⟨some 6, .none, true, 37, .move (.tmp 8)⟩,
      ⟨some 9, .none, true, 2, .extract (.tmp 6) 0⟩,
      ⟨some 10, .none, true, 2, .extract (.tmp 6) 1⟩,
      ⟨some 11, .none, true, 4, .extract (.tmp 6) 2⟩,
      ⟨some 3, .none, true, 2, .assign (.tmp 9)⟩,
      ⟨some 4, .none, true, 2, .assign (.tmp 10)⟩,
      ⟨some 5, .none, true, 4, .assign (.tmp 11)⟩])
  (.keep [3, 4, 5]
  (.seq
    (.seq
      (.region [⟨some 12, .none, true, 4, .move (.tmp 5)⟩,
        ⟨some 13, .none, true, 4, .unOp .not 4 (.tmp 12)⟩,
        ⟨some 14, .none, true, 4, .move (.tmp 13)⟩,
        ⟨some 15, .some 14 false, true, 2, .move (.tmp 3)⟩,
        ⟨some 16, .some 14 false, true, 2, .move (.tmp 4)⟩,
        ⟨some 17, .some 14 false, true, 4, .call { callee := .value (.func 47), args := #[.tmp 15, .tmp 16], argTypes := #[2, 2] }⟩,
        ⟨some 18, .some 14 false, true, 4, .unOp .not 4 (.tmp 17)⟩,
        ⟨some 19, .none, true, 4, .pick (.tmp 14) (.const (.bool true)) (.tmp 18)⟩])
    (.keep [3, 4, 19]
    (.cond (.tmp 19)
      (.seq
        (.region [⟨some 2, .none, true, 2, .assign (.const (.int .i64 (-1)))⟩])
      .ret)
      .skip)))
  (.seq
    (.region [⟨some 20, .none, true, 2, .move (.tmp 3)⟩,
      ⟨some 21, .none, true, 2, .move (.tmp 3)⟩,
      ⟨some 22, .none, true, 2, .binOp .mul 2 (.tmp 20) (.tmp 21) 2⟩,
      ⟨some 23, .none, true, 2, .move (.tmp 4)⟩,
      ⟨some 24, .none, true, 2, .move (.tmp 4)⟩,
      ⟨some 25, .none, true, 2, .binOp .mul 2 (.tmp 23) (.tmp 24) 2⟩,
      ⟨some 26, .none, true, 2, .binOp .add 2 (.tmp 22) (.tmp 25) 2⟩,
      ⟨some 2, .none, true, 2, .assign (.tmp 26)⟩])
  .ret))))))
theorem t_gauss_Norm : FnT Try.prog f_gauss_Norm rc_gauss_Norm [.tmp 2] 1 := ⟨⟨[], Try.f25, _, Try.func25, rfl, by kernel_rfl, by kernel_rfl, by kernel_rfl, rfl, by decide⟩, by kernel_rfl⟩
/-- reeve/gauss.in -/
abbrev f_gauss_in : FuncId := 46
def rc_gauss_in : RCode :=
  (.seq
    (.region [⟨some 2, .none, true, 4, .assign (.const (.bool false))⟩])
  (.keep [0]
  (.seq
    (.region [⟨some 3, .none, true, 2, .move (.tmp 0)⟩,
      ⟨some 4, .none, true, 4, .binOp .geq 2 (.tmp 3) (.const (.int .i64 (-1099511627776))) 2⟩,
      ⟨some 5, .none, true, 4, .move (.tmp 4)⟩,
      ⟨some 6, .some 5 true, true, 2, .move (.tmp 0)⟩,
      ⟨some 7, .some 5 true, true, 4, .binOp .leq 2 (.tmp 6) (.const (.int .i64 1099511627776)) 2⟩,
      ⟨some 8, .none, true, 4, .pick (.tmp 5) (.tmp 7) (.const (.bool false))⟩,
      ⟨some 2, .none, true, 4, .assign (.tmp 8)⟩])
  .ret)))
theorem t_gauss_in : FnT Try.prog f_gauss_in rc_gauss_in [.tmp 2] 1 := ⟨⟨[], Try.f46, _, Try.func46, rfl, by kernel_rfl, by kernel_rfl, by kernel_rfl, rfl, by decide⟩, by kernel_rfl⟩
/-- reeve/gauss.near -/
abbrev f_gauss_near : FuncId := 47
def rc_gauss_near : RCode :=
  (.seq
    (.region [⟨some 4, .none, true, 4, .assign (.const (.bool false))⟩])
  (.keep [0, 1]
  (.seq
    (.region [⟨some 5, .none, true, 2, .move (.tmp 0)⟩,
      ⟨some 6, .none, true, 2, .move (.tmp 0)⟩,
      ⟨some 7, .none, true, 2, .unOp .neg 2 (.tmp 6)⟩,
      ⟨some 8, .none, true, 2, .move (.tmp 1)⟩,
      ⟨some 9, .none, true, 2, .move (.tmp 1)⟩,
      ⟨some 10, .none, true, 2, .unOp .neg 2 (.tmp 9)⟩,
      ⟨some 11, .none, true, 2, .call { callee := .builtin .max, args := #[.tmp 5, .tmp 7, .tmp 8, .tmp 10], argTypes := #[2, 2, 2, 2] }⟩,
      ⟨some 12, .none, true, 4, .binOp .leq 2 (.tmp 11) (.const (.int .i64 1073741824)) 2⟩,
      ⟨some 4, .none, true, 4, .assign (.tmp 12)⟩])
  .ret)))
theorem t_gauss_near : FnT Try.prog f_gauss_near rc_gauss_near [.tmp 4] 2 := ⟨⟨[], Try.f47, _, Try.func47, rfl, by kernel_rfl, by kernel_rfl, by kernel_rfl, rfl, by decide⟩, by kernel_rfl⟩
/-- reeve/gauss.rest -/
abbrev f_gauss_rest : FuncId := 48
def rc_gauss_rest : RCode :=
  (.seq
    (.region [⟨some 2, .none, true, 2, .assign (.const (.int .i64 0))⟩])
  (.keep [0]
  (.seq
    (.region [⟨some 3, .none, true, 2, .move (.tmp 0)⟩,
      ⟨some 4, .none, true, 2, .binOp .rem 2 (.tmp 3) (.const (.int .i64 1000003)) 2⟩,
      ⟨some 5, .none, true, 2, .binOp .add 2 (.tmp 4) (.const (.int .i64 1000003)) 2⟩,
      ⟨some 6, .none, true, 2, .binOp .rem 2 (.tmp 5) (.const (.int .i64 1000003)) 2⟩,
      ⟨some 2, .none, true, 2, .assign (.tmp 6)⟩])
  .ret)))
theorem t_gauss_rest : FnT Try.prog f_gauss_rest rc_gauss_rest [.tmp 2] 1 := ⟨⟨[], Try.f48, _, Try.func48, rfl, by kernel_rfl, by kernel_rfl, by kernel_rfl, rfl, by decide⟩, by kernel_rfl⟩
/-- reeve/gauss.whole -/
abbrev f_gauss_whole : FuncId := 49
def rc_gauss_whole : RCode :=
  (.seq
    (.region [⟨some 2, .none, true, 2, .assign (.const (.int .i64 0))⟩,
      ⟨some 3, .none, true, 4, .assign (.const (.bool false))⟩])
  (.keep [0]
  (.seq
    (.seq
      (.region [⟨some 4, .none, true, 48, .move (.tmp 0)⟩,
        ⟨some 5, .none, true, 4, .binOp .geq 48 (.tmp 4) (.const (.float .f64 14010698440749613056)) 48⟩,
        ⟨some 6, .none, true, 4, .move (.tmp 5)⟩,
        ⟨some 7, .some 6 true, true, 48, .move (.tmp 0)⟩,
        ⟨some 8, .some 6 true, true, 4, .binOp .leq 48 (.tmp 7) (.const (.float .f64 4787326403894837248)) 48⟩,
        ⟨some 9, .none, true, 4, .pick (.tmp 6) (.tmp 8) (.const (.bool false))⟩,
        ⟨some 10, .none, true, 4, .unOp .not 4 (.tmp 9)⟩,
        ⟨some 11, .none, true, 4, .move (.tmp 10)⟩,
        ⟨some 12, .some 11 false, true, 48, .move (.tmp 0)⟩,
        ⟨some 13, .some 11 false, true, 48, .move (.tmp 0)⟩,
        ⟨some 14, .some 11 false, true, 48, .call { callee := .value (.func 59), args := #[.tmp 13], argTypes := #[48] }⟩,
        ⟨some 15, .some 11 false, true, 4, .binOp .neq 48 (.tmp 12) (.tmp 14) 48⟩,
        ⟨some 16, .none, true, 4, .pick (.tmp 11) (.const (.bool true)) (.tmp 15)⟩,
        ⟨some 17, .none, true, 4, .move (.tmp 16)⟩,
        ⟨some 18, .some 17 false, true, 48, .move (.tmp 0)⟩,
        ⟨some 19, .some 17 false, true, 4, .binOp .eql 48 (.tmp 18) (.const (.float .f64 0)) 48⟩,
        ⟨some 20, .some 17 false, true, 4, .move (.tmp 19)⟩,
        ⟨some 21, .some 20 true, true, 48, .move (.tmp 0)⟩,
        ⟨some 22, .some 20 true, true, 4, .call { callee := .value (.func 60), args := #[.tmp 21], argTypes := #[48] }⟩,
        ⟨some 23, .some 17 false, true, 4, .pick (.tmp 20) (.tmp 22) (.const (.bool false))⟩,
        ⟨some 24, .none, true, 4, .pick (.tmp 17) (.const (.bool true)) (.tmp 23)⟩])
    (.keep [0, 24]
    (.cond (.tmp 24)
      (.seq
        (.region [⟨some 2, .none, true, 2, .assign (.const (.int .i64 0))⟩,
          ⟨some 3, .none, true, 4, .assign (.const (.bool false))⟩])
      .ret)
      .skip)))
  (.seq
    (.region [⟨some 25, .none, true, 48, .move (.tmp 0)⟩,
      ⟨some 26, .none, true, 2, .convert 48 2 (.tmp 25)⟩,
      ⟨some 2, .none, true, 2, .assign (.tmp 26)⟩,
      ⟨some 3, .none, true, 4, .assign (.const (.bool true))⟩])
  .ret))))
theorem t_gauss_whole : FnT Try.prog f_gauss_whole rc_gauss_whole [.tmp 2, .tmp 3] 1 := ⟨⟨[], Try.f49, _, Try.func49, rfl, by kernel_rfl, by kernel_rfl, by kernel_rfl, rfl, by decide⟩, by kernel_rfl⟩
/-- math.Trunc -/
abbrev f_math_Trunc : FuncId := 59
def rc_math_Trunc : RCode :=
  (.seq
    (.region [⟨some 2, .none, true, 48, .assign (.const (.float .f64 0))⟩])
  (.keep [0]
  (.seq
    (.cond (.const (.bool true))
      (.seq
        (.region [⟨some 3, .none, true, 48, .move (.tmp 0)⟩,
          ⟨some 4, .none, true, 48, .call { callee := .value (.func 64), args := #[.tmp 3], argTypes := #[48] }⟩,
          ⟨some 2, .none, true, 48, .assign (.tmp 4)⟩])
      .ret)
      .skip)
  (.keep [0]
  (.seq
    (.region [⟨some 5, .none, true, 48, .move (.tmp 0)⟩,
      ⟨some 6, .none, true, 48, .call { callee := .value (.func 65), args := #[.tmp 5], argTypes := #[48] }⟩,
      ⟨some 2, .none, true, 48, .assign (.tmp 6)⟩])
  .ret)))))
theorem t_math_Trunc : FnT Try.prog f_math_Trunc rc_math_Trunc [.tmp 2] 1 := ⟨⟨[], Try.f59, _, Try.func59, rfl, by kernel_rfl, by kernel_rfl, by kernel_rfl, rfl, by decide⟩, by kernel_rfl⟩
/-- math.Signbit -/
abbrev f_math_Signbit : FuncId := 60
def rc_math_Signbit : RCode :=
  (.seq
    (.region [⟨some 2, .none, true, 4, .assign (.const (.bool false))⟩])
  (.keep [0]
  (.seq
    (.region [⟨some 3, .none, true, 48, .move (.tmp 0)⟩,
      ⟨some 4, .none, true, 34, .call { callee := .value (.func 66), args := #[.tmp 3], argTypes := #[48] }⟩,
      ⟨some 5, .none, true, 2, .convert 34 2 (.tmp 4)⟩,
      ⟨some 6, .none, true, 4, .binOp .lss 2 (.tmp 5) (.const (.int .i64 0)) 2⟩,
      ⟨some 2, .none, true, 4, .assign (.tmp 6)⟩])
  .ret)))
theorem t_math_Signbit : FnT Try.prog f_math_Signbit rc_math_Signbit [.tmp 2] 1 := ⟨⟨[], Try.f60, _, Try.func60, rfl, by kernel_rfl, by kernel_rfl, by kernel_rfl, rfl, by decide⟩, by kernel_rfl⟩
/-- math.trunc -/
abbrev f_math_trunc : FuncId := 65
def rc_math_trunc : RCode :=
  (.seq
    (.region [⟨some 2, .none, true, 48, .assign (.const (.float .f64 0))⟩])
  (.keep [0]
  (.seq
    (.seq
      (.region [⟨some 5, .none, true, 48, .move (.tmp 0)⟩,
        ⟨some 6, .none, true, 48, .call { callee := .value (.func 69), args := #[.tmp 5], argTypes := #[48] }⟩,
        ⟨some 7, .none, true, 4, .binOp .lss 48 (.tmp 6) (.const (.float .f64 4607182418800017408)) 48⟩])
    (.keep [0, 7]
    (.cond (.tmp 7)
      (.seq
        (.region [⟨some 8, .none, true, 48, .move (.tmp 0)⟩,
          ⟨some 9, .none, true, 48, .call { callee := .value (.func 70), args := #[.const (.float .f64 0), .tmp 8], argTypes := #[48, 48] }⟩,
          ⟨some 2, .none, true, 48, .assign (.tmp 9)⟩])
      .ret)
      .skip)))
  (.seq
    (.region [⟨some 10, .none, true, 48, .move (.tmp 0)⟩,
      ⟨some 11, .none, true, 34, .call { callee := .value (.func 66), args := #[.tmp 10], argTypes := #[48] }⟩,
      ⟨some 3, .none, true, 34, .assign (.tmp 11)⟩])
  (.keep [3]
  (.seq
    (.region [⟨some 12, .none, true, 34, .move (.tmp 3)⟩,
      ⟨some 13, .none, true, 34, .binOp .shr 34 (.tmp 12) (.const (.int .u64 52)) 33⟩,
      ⟨some 14, .none, true, 33, .binOp .and 33 (.tmp 13) (.const (.int .u64 2047)) 33⟩,
      ⟨some 15, .none, true, 33, .binOp .sub 33 (.tmp 14) (.const (.int .u64 1023)) 33⟩,
      ⟨some 4, .none, true, 33, .assign (.tmp 15)⟩])
  (.keep [3, 4]
  (.seq
    (.seq
      (.region [⟨some 16, .none, true, 33, .move (.tmp 4)⟩,
        ⟨some 17, .none, true, 4, .binOp .lss 33 (.tmp 16) (.const (.int .u64 52)) 33⟩])
    (.keep [3, 4, 17]
    (.cond (.tmp 17)
      (.region [⟨some 18, .none, true, 34, .move (.tmp 3)⟩,
        ⟨some 19, .none, true, 33, .move (.tmp 4)⟩,
        ⟨some 20, .none, true, 33, .binOp .sub 33 (.const (.int .u64 52)) (.tmp 19) 33⟩,
        ⟨some 21, .none, true, 34, .binOp .shl 34 (.const (.int .u64 1)) (.tmp 20) 33⟩,
        ⟨some 22, .none, true, 34, .binOp .sub 34 (.tmp 21) (.const (.int .u64 1)) 34⟩,
        ⟨some 23, .none, true, 34, .binOp .andNot 34 (.tmp 18) (.tmp 22) 34⟩,
        ⟨some 3, .none, true, 34, .assign (.tmp 23)⟩])
      .skip)))
  (.seq
    (.region [⟨some 24, .none, true, 34, .move (.tmp 3)⟩,
      ⟨some 25, .none, true, 48, .call { callee := .value (.func 71), args := #[.tmp 24], argTypes := #[34] }⟩,
      ⟨some 2, .none, true, 48, .assign (.tmp 25)⟩])
  .ret)))))))))
theorem t_math_trunc : FnT Try.prog f_math_trunc rc_math_trunc [.tmp 2] 1 := ⟨⟨[], Try.f65, _, Try.func65, rfl, by kernel_rfl, by kernel_rfl, by kernel_rfl, rfl, by decide⟩, by kernel_rfl⟩
/-- math.Abs -/
abbrev f_math_Abs : FuncId := 69
def rc_math_Abs : RCode :=
  (.seq
    (.region [⟨some 2, .none, true, 48, .assign (.const (.float .f64 0))⟩])
  (.keep [0]
  (.seq
    (.region [⟨some 3, .none, true, 48, .move (.tmp 0)⟩,
      ⟨some 4, .none, true, 34, .call { callee := .value (.func 66), args := #[.tmp 3], argTypes := #[48] }⟩,
      ⟨some 5, .none, true, 34, .binOp .andNot 34 (.tmp 4) (.const (.int .u64 9223372036854775808)) 34⟩,
      ⟨some 6, .none, true, 48, .call { callee := .value (.func 71), args := #[.tmp 5], argTypes := #[34] }⟩,
      ⟨some 2, .none, true, 48, .assign (.tmp 6)⟩])
  .ret)))
theorem t_math_Abs : FnT Try.prog f_math_Abs rc_math_Abs [.tmp 2] 1 := ⟨⟨[], Try.f69, _, Try.func69, rfl, by kernel_rfl, by kernel_rfl, by kernel_rfl, rfl, by decide⟩, by kernel_rfl⟩
/-- math.Copysign -/
abbrev f_math_Copysign : FuncId := 70
def rc_math_Copysign : RCode :=
  (.seq
    (.region [⟨some 4, .none, true, 48, .assign (.const (.float .f64 0))⟩])
  (.keep [0, 1]
  (.seq
    (.region [⟨some 5, .none, true, 48, .move (.tmp 0)⟩,
      ⟨some 6, .none, true, 34, .call { callee := .value (.func 66), args := #[.tmp 5], argTypes := #[48] }⟩,
      ⟨some 7, .none, true, 34, .binOp .andNot 34 (.tmp 6) (.const (.int .u64 9223372036854775808)) 34⟩,
      ⟨some 8, .none, true, 48, .move (.tmp 1)⟩,
      ⟨some 9, .none, true, 34, .call { callee := .value (.func 66), args := #[.tmp 8], argTypes := #[48] }⟩,
      ⟨some 10, .none, true, 34, .binOp .and 34 (.tmp 9) (.const (.int .u64 9223372036854775808)) 34⟩,
      ⟨some 11, .none, true, 34, .binOp .or 34 (.tmp 7) (.tmp 10) 34⟩,
      ⟨some 12, .none, true, 48, .call { callee := .value (.func 71), args := #[.tmp 11], argTypes := #[34] }⟩,
      ⟨some 4, .none, true, 48, .assign (.tmp 12)⟩])
  .ret)))
theorem t_math_Copysign : FnT Try.prog f_math_Copysign rc_math_Copysign [.tmp 4] 2 := ⟨⟨[], Try.f70, _, Try.func70, rfl, by kernel_rfl, by kernel_rfl, by kernel_rfl, rfl, by decide⟩, by kernel_rfl⟩
def tab : XTab :=
  [(8, rc_reevelaw1_GaussKnown, [.tmp 0], 0),
   (14, rc_reevelaw1_awake, [.tmp 0], 0),
   (15, rc_gauss_Of, [.tmp 4, .tmp 5], 2),
   (16, rc_gauss_Turn, [.tmp 4], 2),
   (17, rc_gauss_Mul, [.tmp 4, .tmp 5], 2),
   (19, rc_gauss_Whole, [.tmp 2], 1),
   (20, rc_gauss_Spin, [.tmp 2], 1),
   (21, rc_gauss_Parts, [.tmp 2, .tmp 3, .tmp 4], 1),
   (23, rc_gauss_Word, [.tmp 2, .tmp 3], 1),
   (24, rc_gauss_Add, [.tmp 4, .tmp 5], 2),
   (25, rc_gauss_Norm, [.tmp 2], 1),
   (46, rc_gauss_in, [.tmp 2], 1),
   (47, rc_gauss_near, [.tmp 4], 2),
   (48, rc_gauss_rest, [.tmp 2], 1),
   (49, rc_gauss_whole, [.tmp 2, .tmp 3], 1),
   (59, rc_math_Trunc, [.tmp 2], 1),
   (60, rc_math_Signbit, [.tmp 2], 1),
   (65, rc_math_trunc, [.tmp 2], 1),
   (69, rc_math_Abs, [.tmp 2], 1),
   (70, rc_math_Copysign, [.tmp 4], 2)]
theorem tabOk : TabOk Try.prog tab :=
  .cons t_reevelaw1_GaussKnown <|
  .cons t_reevelaw1_awake <|
  .cons t_gauss_Of <|
  .cons t_gauss_Turn <|
  .cons t_gauss_Mul <|
  .cons t_gauss_Whole <|
  .cons t_gauss_Spin <|
  .cons t_gauss_Parts <|
  .cons t_gauss_Word <|
  .cons t_gauss_Add <|
  .cons t_gauss_Norm <|
  .cons t_gauss_in <|
  .cons t_gauss_near <|
  .cons t_gauss_rest <|
  .cons t_gauss_whole <|
  .cons t_math_Trunc <|
  .cons t_math_Signbit <|
  .cons t_math_trunc <|
  .cons t_math_Abs <|
  .cons t_math_Copysign <| .nil

end Go.Proofs.Ytcndbfekcmalmaa.F1K
