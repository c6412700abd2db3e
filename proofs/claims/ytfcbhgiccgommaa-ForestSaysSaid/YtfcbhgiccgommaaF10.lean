/- Functions of the program made ready for walking, each with its proof; facts of types. Written by gen2.py. -/
import Derived.Test.YtfcbhgiccgommaaProg
import Derived.Test.YtfcbhgiccgommaaAbsE
set_option linter.unusedVariables false
set_option linter.unusedSectionVars false
set_option maxRecDepth 100000
namespace Go.Proofs.Ytfcbhgiccgommaa.F10
open Go Go.Proofs Go.Proofs.YtfcbhgiccgommaaAbs
variable [Base]
theorem hm : Try.prog.follows .mixedOrders = true := by kernel_rfl
abbrev T_int : TypeId := 3
theorem ts_int : tsize Try.prog 3 = some 1 := by kernel_rfl
theorem tb_int : tbytes Try.prog 3 = some 8 := by kernel_rfl
theorem ta_int : tagg Try.prog 3 = some false := by kernel_rfl
theorem tz_int : zeroFlat Try.prog 3 = some [.int .i64 0] := by kernel_rfl
theorem tv_int : tzero Try.prog 3 = some (.int .i64 0) := by kernel_rfl
theorem tu_int : Try.prog.underlying 3 = some (.int .i64) := by kernel_rfl
abbrev T_bool : TypeId := 4
theorem ts_bool : tsize Try.prog 4 = some 1 := by kernel_rfl
theorem tb_bool : tbytes Try.prog 4 = some 1 := by kernel_rfl
theorem ta_bool : tagg Try.prog 4 = some false := by kernel_rfl
theorem tz_bool : zeroFlat Try.prog 4 = some [.bool false] := by kernel_rfl
theorem tv_bool : tzero Try.prog 4 = some (.bool false) := by kernel_rfl
theorem tu_bool : Try.prog.underlying 4 = some (.bool) := by kernel_rfl
abbrev T_S_int : TypeId := 22
theorem ts_S_int : tsize Try.prog 22 = some 1 := by kernel_rfl
theorem tb_S_int : tbytes Try.prog 22 = some 24 := by kernel_rfl
theorem ta_S_int : tagg Try.prog 22 = some false := by kernel_rfl
theorem tz_S_int : zeroFlat Try.prog 22 = some [.slice none 0 0] := by kernel_rfl
theorem tv_S_int : tzero Try.prog 22 = some (.slice none 0 0) := by kernel_rfl
theorem tu_S_int : Try.prog.underlying 22 = some (.slice 3) := by kernel_rfl
abbrev T_forest_Forest : TypeId := 25
theorem ts_forest_Forest : tsize Try.prog 25 = some 1 := by kernel_rfl
theorem tb_forest_Forest : tbytes Try.prog 25 = some 24 := by kernel_rfl
theorem ta_forest_Forest : tagg Try.prog 25 = some true := by kernel_rfl
theorem tz_forest_Forest : zeroFlat Try.prog 25 = some [.slice none 0 0] := by kernel_rfl
theorem tv_forest_Forest : tzero Try.prog 25 = some (.agg #[.slice none 0 0]) := by kernel_rfl
theorem tp_forest_Forest : tplaces Try.prog 25 = some [(0, 1)] := by kernel_rfl
theorem tf_forest_Forest_Up : tfield Try.prog 25 0 = some (22, 0) := by kernel_rfl
theorem tg_forest_Forest_Up : tfield' Try.prog 25 0 = some (22, 0) := by kernel_rfl
abbrev T_A96_bool : TypeId := 33
theorem ts_A96_bool : tsize Try.prog 33 = some 96 := by kernel_rfl
theorem tb_A96_bool : tbytes Try.prog 33 = some 96 := by kernel_rfl
theorem ta_A96_bool : tagg Try.prog 33 = some true := by kernel_rfl
theorem tu_A96_bool : Try.prog.underlying 33 = some (.array 96 4) := by kernel_rfl
abbrev T_uint : TypeId := 54
theorem ts_uint : tsize Try.prog 54 = some 1 := by kernel_rfl
theorem tb_uint : tbytes Try.prog 54 = some 8 := by kernel_rfl
theorem ta_uint : tagg Try.prog 54 = some false := by kernel_rfl
theorem tz_uint : zeroFlat Try.prog 54 = some [.int .u64 0] := by kernel_rfl
theorem tv_uint : tzero Try.prog 54 = some (.int .u64 0) := by kernel_rfl
theorem tu_uint : Try.prog.underlying 54 = some (.int .u64) := by kernel_rfl
abbrev T_slices_sortedHint : TypeId := 56
theorem ts_slices_sortedHint : tsize Try.prog 56 = some 1 := by kernel_rfl
theorem tb_slices_sortedHint : tbytes Try.prog 56 = some 8 := by kernel_rfl
theorem ta_slices_sortedHint : tagg Try.prog 56 = some false := by kernel_rfl
theorem tz_slices_sortedHint : zeroFlat Try.prog 56 = some [.int .i64 0] := by kernel_rfl
theorem tv_slices_sortedHint : tzero Try.prog 56 = some (.int .i64 0) := by kernel_rfl
theorem tu_slices_sortedHint : Try.prog.underlying 56 = some (.int .i64) := by kernel_rfl
abbrev T_uint32 : TypeId := 64
theorem ts_uint32 : tsize Try.prog 64 = some 1 := by kernel_rfl
theorem tb_uint32 : tbytes Try.prog 64 = some 4 := by kernel_rfl
theorem ta_uint32 : tagg Try.prog 64 = some false := by kernel_rfl
theorem tz_uint32 : zeroFlat Try.prog 64 = some [.int .u32 0] := by kernel_rfl
theorem tv_uint32 : tzero Try.prog 64 = some (.int .u32 0) := by kernel_rfl
theorem tu_uint32 : Try.prog.underlying 64 = some (.int .u32) := by kernel_rfl
abbrev T_uint64 : TypeId := 66
theorem ts_uint64 : tsize Try.prog 66 = some 1 := by kernel_rfl
theorem tb_uint64 : tbytes Try.prog 66 = some 8 := by kernel_rfl
theorem ta_uint64 : tagg Try.prog 66 = some false := by kernel_rfl
theorem tz_uint64 : zeroFlat Try.prog 66 = some [.int .u64 0] := by kernel_rfl
theorem tv_uint64 : tzero Try.prog 66 = some (.int .u64 0) := by kernel_rfl
theorem tu_uint64 : Try.prog.underlying 66 = some (.int .u64) := by kernel_rfl
abbrev T_slices_xorshift : TypeId := 67
theorem ts_slices_xorshift : tsize Try.prog 67 = some 1 := by kernel_rfl
theorem tb_slices_xorshift : tbytes Try.prog 67 = some 8 := by kernel_rfl
theorem ta_slices_xorshift : tagg Try.prog 67 = some false := by kernel_rfl
theorem tz_slices_xorshift : zeroFlat Try.prog 67 = some [.int .u64 0] := by kernel_rfl
theorem tv_slices_xorshift : tzero Try.prog 67 = some (.int .u64 0) := by kernel_rfl
theorem tu_slices_xorshift : Try.prog.underlying 67 = some (.int .u64) := by kernel_rfl
abbrev T_P_int : TypeId := 71
theorem ts_P_int : tsize Try.prog 71 = some 1 := by kernel_rfl
theorem tb_P_int : tbytes Try.prog 71 = some 8 := by kernel_rfl
theorem ta_P_int : tagg Try.prog 71 = some false := by kernel_rfl
theorem tz_P_int : zeroFlat Try.prog 71 = some [.pointer none] := by kernel_rfl
theorem tv_P_int : tzero Try.prog 71 = some (.pointer none) := by kernel_rfl
theorem tu_P_int : Try.prog.underlying 71 = some (.pointer 3) := by kernel_rfl
abbrev T_uint8 : TypeId := 5
theorem ts_uint8 : tsize Try.prog 5 = some 1 := by kernel_rfl
theorem tb_uint8 : tbytes Try.prog 5 = some 1 := by kernel_rfl
theorem ta_uint8 : tagg Try.prog 5 = some false := by kernel_rfl
theorem tz_uint8 : zeroFlat Try.prog 5 = some [.int .u8 0] := by kernel_rfl
theorem tv_uint8 : tzero Try.prog 5 = some (.int .u8 0) := by kernel_rfl
theorem tu_uint8 : Try.prog.underlying 5 = some (.int .u8) := by kernel_rfl
abbrev T_string : TypeId := 9
theorem ts_string : tsize Try.prog 9 = some 1 := by kernel_rfl
theorem tb_string : tbytes Try.prog 9 = some 16 := by kernel_rfl
theorem ta_string : tagg Try.prog 9 = some false := by kernel_rfl
theorem tz_string : zeroFlat Try.prog 9 = some [.string ByteArray.empty] := by kernel_rfl
theorem tv_string : tzero Try.prog 9 = some (.string ByteArray.empty) := by kernel_rfl
theorem tu_string : Try.prog.underlying 9 = some (.string) := by kernel_rfl
abbrev T_P_slices_xorshift : TypeId := 73
theorem ts_P_slices_xorshift : tsize Try.prog 73 = some 1 := by kernel_rfl
theorem tb_P_slices_xorshift : tbytes Try.prog 73 = some 8 := by kernel_rfl
theorem ta_P_slices_xorshift : tagg Try.prog 73 = some false := by kernel_rfl
theorem tz_P_slices_xorshift : zeroFlat Try.prog 73 = some [.pointer none] := by kernel_rfl
theorem tv_P_slices_xorshift : tzero Try.prog 73 = some (.pointer none) := by kernel_rfl
theorem tu_P_slices_xorshift : Try.prog.underlying 73 = some (.pointer 67) := by kernel_rfl
theorem bl_S_int : ∀ (ty : TypeId) (ev : Operand → Value) (g : AMem) (n : Nat) (len : Nat) (parts : Array (Nat × Operand)), len * 1 ≤ 16777216 → aOp Try.prog ty ev g n (.buildSlice 22 len parts) = (fillS 1 (zeroRow [.int .i64 0] len) (parts.toList.map fun p => (p.1, ev p.2))).map fun cs => (.slice (some ⟨n, 0, none⟩) len 1, .new (.row cs true)) := fun ty ev g n len parts hb => aOp_buildL tu_S_int tz_int ts_int rfl ty ev g n len parts hb
theorem ap_S_int : ∀ (g : AMem) (n : Nat) (s x : Value), aAppend Try.prog g n 22 s x = appR g n 0 8 s (aRead g 1 x) := inst_append tu_S_int ts_int tb_int tv_int rfl
theorem mk_S_int : ∀ (n : Nat) (k k' : IntKind) (l c : Int), aMake Try.prog n 22 (.int k l) (.int k' c) = if 0 ≤ l ∧ l ≤ c ∧ c ≤ 70368744177664 ∧ 8 * c.toNat ≤ 70368744177664 then some (.slice (some ⟨n, 0, none⟩) l.toNat 1, .new (.row (zeroRow [.int .i64 0] l.toNat) true)) else none := inst_make tu_S_int ts_int tb_int tv_int rfl rfl
theorem sl_S_int : ∀ (ty : TypeId) (ev : Operand → Value) (g : AMem) (n : Nat) (x : Operand) (lo hi : Option Operand), aOp Try.prog ty ev g n (.slice 22 x lo hi none) = (slR 1 (ev x) (lo.map ev) (hi.map ev)).map fun v => (v, .none) := aOp_sliceS tu_S_int ts_int
theorem cp_S_int : ∀ (g : AMem) (d s : Value), aCopy Try.prog g 22 d s = cpR g 1 d (aRead g 1 s) := aCopy_eq tu_S_int ts_int
theorem bs_forest_Forest : ∀ (ty : TypeId) (ev : Operand → Value) (g : AMem) (n : Nat) (parts : Array (Nat × Operand)), aOp Try.prog ty ev g n (.build 25 parts) = (fillP [(0, 1)] [.slice none 0 0] (parts.toList.map fun p => (p.1, ev p.2))).map fun cs => (.agg cs.toArray, .none) := aOp_buildS tz_forest_Forest tp_forest_Forest
theorem ia_A96_bool : ∀ (b o : Nat) (i : Int), aIndexAddrR Try.prog (some (.array 96 4)) (.pointer (some ⟨b, o, none⟩)) i = if 0 ≤ i ∧ i < (96 : Nat) then some (.pointer (some ⟨b, o + i.toNat * 1, none⟩)) else none := fun b o i => aIndexAddrR_array i ts_bool
theorem sl_A96_bool : ∀ (ty : TypeId) (ev : Operand → Value) (g : AMem) (n : Nat) (x : Operand), aOp Try.prog ty ev g n (.slice 33 x none none none) = (saR g 96 1 (ev x)).map fun v => (v, .none) := aOp_sliceA tu_A96_bool ts_bool
theorem q_int : (tsize Try.prog 3 = some 1) ∧ (tagg Try.prog 3 = some false) ∧ (zeroFlat Try.prog 3 = some [.int .i64 0]) ∧ (Try.prog.underlying 3 = some (.int .i64)) := ⟨ts_int, ta_int, tz_int, tu_int⟩
theorem q_bool : (tsize Try.prog 4 = some 1) ∧ (tagg Try.prog 4 = some false) ∧ (zeroFlat Try.prog 4 = some [.bool false]) ∧ (Try.prog.underlying 4 = some (.bool)) := ⟨ts_bool, ta_bool, tz_bool, tu_bool⟩
theorem q_uint8 : (tsize Try.prog 5 = some 1) ∧ (tagg Try.prog 5 = some false) ∧ (zeroFlat Try.prog 5 = some [.int .u8 0]) ∧ (Try.prog.underlying 5 = some (.int .u8)) := ⟨ts_uint8, ta_uint8, tz_uint8, tu_uint8⟩
theorem q_string : (tsize Try.prog 9 = some 1) ∧ (tagg Try.prog 9 = some false) ∧ (zeroFlat Try.prog 9 = some [.string ByteArray.empty]) ∧ (Try.prog.underlying 9 = some (.string)) := ⟨ts_string, ta_string, tz_string, tu_string⟩
theorem q_S_int : (tsize Try.prog 22 = some 1) ∧ (tagg Try.prog 22 = some false) ∧ (zeroFlat Try.prog 22 = some [.slice none 0 0]) ∧ (Try.prog.underlying 22 = some (.slice 3)) ∧ (∀ (ty : TypeId) (ev : Operand → Value) (g : AMem) (n : Nat) (len : Nat) (parts : Array (Nat × Operand)), len * 1 ≤ 16777216 → aOp Try.prog ty ev g n (.buildSlice 22 len parts) = (fillS 1 (zeroRow [.int .i64 0] len) (parts.toList.map fun p => (p.1, ev p.2))).map fun cs => (.slice (some ⟨n, 0, none⟩) len 1, .new (.row cs true))) ∧ (∀ (g : AMem) (n : Nat) (s x : Value), aAppend Try.prog g n 22 s x = appR g n 0 8 s (aRead g 1 x)) ∧ (∀ (n : Nat) (k k' : IntKind) (l c : Int), aMake Try.prog n 22 (.int k l) (.int k' c) = if 0 ≤ l ∧ l ≤ c ∧ c ≤ 70368744177664 ∧ 8 * c.toNat ≤ 70368744177664 then some (.slice (some ⟨n, 0, none⟩) l.toNat 1, .new (.row (zeroRow [.int .i64 0] l.toNat) true)) else none) ∧ (∀ (ty : TypeId) (ev : Operand → Value) (g : AMem) (n : Nat) (x : Operand) (lo hi : Option Operand), aOp Try.prog ty ev g n (.slice 22 x lo hi none) = (slR 1 (ev x) (lo.map ev) (hi.map ev)).map fun v => (v, .none)) ∧ (∀ (g : AMem) (d s : Value), aCopy Try.prog g 22 d s = cpR g 1 d (aRead g 1 s)) := ⟨ts_S_int, ta_S_int, tz_S_int, tu_S_int, bl_S_int, ap_S_int, mk_S_int, sl_S_int, cp_S_int⟩
theorem q_forest_Forest : (tsize Try.prog 25 = some 1) ∧ (tagg Try.prog 25 = some true) ∧ (zeroFlat Try.prog 25 = some [.slice none 0 0]) ∧ (tplaces Try.prog 25 = some [(0, 1)]) ∧ (tfield Try.prog 25 0 = some (22, 0)) ∧ (tfield' Try.prog 25 0 = some (22, 0)) ∧ (∀ (ty : TypeId) (ev : Operand → Value) (g : AMem) (n : Nat) (parts : Array (Nat × Operand)), aOp Try.prog ty ev g n (.build 25 parts) = (fillP [(0, 1)] [.slice none 0 0] (parts.toList.map fun p => (p.1, ev p.2))).map fun cs => (.agg cs.toArray, .none)) := ⟨ts_forest_Forest, ta_forest_Forest, tz_forest_Forest, tp_forest_Forest, tf_forest_Forest_Up, tg_forest_Forest_Up, bs_forest_Forest⟩
theorem q_A96_bool : (tsize Try.prog 33 = some 96) ∧ (tagg Try.prog 33 = some true) ∧ (Try.prog.underlying 33 = some (.array 96 4)) ∧ (∀ (b o : Nat) (i : Int), aIndexAddrR Try.prog (some (.array 96 4)) (.pointer (some ⟨b, o, none⟩)) i = if 0 ≤ i ∧ i < (96 : Nat) then some (.pointer (some ⟨b, o + i.toNat * 1, none⟩)) else none) ∧ (∀ (ty : TypeId) (ev : Operand → Value) (g : AMem) (n : Nat) (x : Operand), aOp Try.prog ty ev g n (.slice 33 x none none none) = (saR g 96 1 (ev x)).map fun v => (v, .none)) := ⟨ts_A96_bool, ta_A96_bool, tu_A96_bool, ia_A96_bool, sl_A96_bool⟩
theorem q_uint : (tsize Try.prog 54 = some 1) ∧ (tagg Try.prog 54 = some false) ∧ (zeroFlat Try.prog 54 = some [.int .u64 0]) ∧ (Try.prog.underlying 54 = some (.int .u64)) := ⟨ts_uint, ta_uint, tz_uint, tu_uint⟩
theorem q_slices_sortedHint : (tsize Try.prog 56 = some 1) ∧ (tagg Try.prog 56 = some false) ∧ (zeroFlat Try.prog 56 = some [.int .i64 0]) ∧ (Try.prog.underlying 56 = some (.int .i64)) := ⟨ts_slices_sortedHint, ta_slices_sortedHint, tz_slices_sortedHint, tu_slices_sortedHint⟩
theorem q_uint32 : (tsize Try.prog 64 = some 1) ∧ (tagg Try.prog 64 = some false) ∧ (zeroFlat Try.prog 64 = some [.int .u32 0]) ∧ (Try.prog.underlying 64 = some (.int .u32)) := ⟨ts_uint32, ta_uint32, tz_uint32, tu_uint32⟩
theorem q_uint64 : (tsize Try.prog 66 = some 1) ∧ (tagg Try.prog 66 = some false) ∧ (zeroFlat Try.prog 66 = some [.int .u64 0]) ∧ (Try.prog.underlying 66 = some (.int .u64)) := ⟨ts_uint64, ta_uint64, tz_uint64, tu_uint64⟩
theorem q_slices_xorshift : (tsize Try.prog 67 = some 1) ∧ (tagg Try.prog 67 = some false) ∧ (zeroFlat Try.prog 67 = some [.int .u64 0]) ∧ (Try.prog.underlying 67 = some (.int .u64)) := ⟨ts_slices_xorshift, ta_slices_xorshift, tz_slices_xorshift, tu_slices_xorshift⟩
theorem q_P_int : (tsize Try.prog 71 = some 1) ∧ (tagg Try.prog 71 = some false) ∧ (zeroFlat Try.prog 71 = some [.pointer none]) ∧ (Try.prog.underlying 71 = some (.pointer 3)) := ⟨ts_P_int, ta_P_int, tz_P_int, tu_P_int⟩
theorem q_P_slices_xorshift : (tsize Try.prog 73 = some 1) ∧ (tagg Try.prog 73 = some false) ∧ (zeroFlat Try.prog 73 = some [.pointer none]) ∧ (Try.prog.underlying 73 = some (.pointer 67)) := ⟨ts_P_slices_xorshift, ta_P_slices_xorshift, tz_P_slices_xorshift, tu_P_slices_xorshift⟩
/-- reeve/reevelaw10.ForestDepths -/
abbrev f_reevelaw10_ForestDepths : FuncId := 3
def rc_reevelaw10_ForestDepthsl0 : RCode :=
  (.seq
    (.seq
      (.region [⟨some 76, .none, true, 3, .move (.tmp 9)⟩,
        ⟨some 77, .none, true, 22, .move (.tmp 7)⟩,
        ⟨some 78, .none, true, 3, .call { callee := .builtin .len, args := #[.tmp 77], argTypes := #[22] }⟩,
        ⟨some 79, .none, true, 4, .binOp .lss 3 (.tmp 76) (.tmp 78) 3⟩])
    (.keep [0, 3, 4, 5, 6, 7, 8, 9, 79]
    (.cond (.tmp 79)
      .skip
      (.exit 2))))
  (.seq
    (.block 3
      (.seq
        (.region [⟨some 82, .none, false, 25, .load 25 (.tmp 3)⟩,
          ⟨some 83, .none, false, 22, .move (.tmp 7)⟩,
          ⟨some 84, .none, false, 3, .move (.tmp 9)⟩,
          ⟨some 85, .none, false, 0, .indexAddr 22 (.tmp 83) (.tmp 84)⟩,
          ⟨some 86, .none, false, 3, .load 3 (.tmp 85)⟩,
          ⟨some 87, .none, true, 3, .call { callee := .value (.func 11), args := #[.tmp 82, .tmp 86], argTypes := #[25, 3] }⟩,
          ⟨some 10, .none, true, 3, .assign (.tmp 87)⟩])
      (.keep [0, 3, 4, 5, 6, 7, 8, 9, 10]
      (.seq
        (.seq
          (.region [⟨some 88, .none, true, 3, .move (.tmp 10)⟩,
            ⟨some 89, .none, true, 3, .move (.tmp 5)⟩,
            ⟨some 90, .none, true, 4, .binOp .leq 3 (.tmp 88) (.tmp 89) 3⟩])
        (.keep [0, 3, 4, 5, 6, 7, 8, 9, 10, 90]
        (.cond (.tmp 90)
          (.seq
            (.region [⟨some 2, .none, true, 4, .assign (.const (.bool false))⟩])
          .ret)
          .skip)))
      (.seq
        (.region [⟨some 91, .none, true, 3, .move (.tmp 10)⟩,
          ⟨some 92, .none, true, 3, .move (.tmp 5)⟩,
          ⟨some 93, .none, true, 3, .binOp .add 3 (.tmp 92) (.const (.int .i64 1)) 3⟩,
          ⟨some 94, .none, true, 4, .binOp .eql 3 (.tmp 91) (.tmp 93) 3⟩])
      (.keep [0, 3, 4, 5, 6, 7, 8, 9, 94]
      (.cond (.tmp 94)
        (.seq
          (.seq
            (.region [⟨some 95, .none, true, 3, .move (.tmp 8)⟩,
              ⟨some 96, .none, true, 22, .move (.tmp 6)⟩,
              ⟨some 97, .none, true, 3, .call { callee := .builtin .len, args := #[.tmp 96], argTypes := #[22] }⟩,
              ⟨some 98, .none, true, 4, .binOp .geq 3 (.tmp 95) (.tmp 97) 3⟩,
              ⟨some 99, .none, true, 4, .move (.tmp 98)⟩,
              ⟨some 100, .some 99 false, false, 22, .move (.tmp 6)⟩,
              ⟨some 101, .some 99 false, false, 3, .move (.tmp 8)⟩,
              ⟨some 102, .some 99 false, false, 0, .indexAddr 22 (.tmp 100) (.tmp 101)⟩,
              ⟨some 103, .some 99 false, false, 3, .load 3 (.tmp 102)⟩,
              ⟨some 104, .some 99 false, false, 22, .move (.tmp 7)⟩,
              ⟨some 105, .some 99 false, false, 3, .move (.tmp 9)⟩,
              ⟨some 106, .some 99 false, false, 0, .indexAddr 22 (.tmp 104) (.tmp 105)⟩,
              ⟨some 107, .some 99 false, false, 3, .load 3 (.tmp 106)⟩,
              ⟨some 108, .some 99 false, true, 4, .binOp .neq 3 (.tmp 103) (.tmp 107) 3⟩,
              ⟨some 109, .none, true, 4, .pick (.tmp 99) (.const (.bool true)) (.tmp 108)⟩])
          (.keep [0, 3, 4, 5, 6, 7, 8, 9, 109]
          (.cond (.tmp 109)
            (.seq
              (.region [⟨some 2, .none, true, 4, .assign (.const (.bool false))⟩])
            .ret)
            .skip)))
        (.region [⟨some 110, .none, true, 3, .move (.tmp 8)⟩,
          ⟨some 111, .none, true, 3, .binOp .add 3 (.tmp 110) (.const (.int .i64 1)) 3⟩,
          ⟨some 8, .none, true, 3, .assign (.tmp 111)⟩]))
        .skip)))))))
  (.keep [0, 3, 4, 5, 6, 7, 8, 9]
  (.region [⟨some 80, .none, true, 3, .move (.tmp 9)⟩,
    ⟨some 81, .none, true, 3, .binOp .add 3 (.tmp 80) (.const (.int .i64 1)) 3⟩,
    ⟨some 9, .none, true, 3, .assign (.tmp 81)⟩]))))
def rc_reevelaw10_ForestDepthsl1 : RCode :=
  (.seq
    (.seq
      (.region [⟨some 23, .none, true, 3, .move (.tmp 4)⟩,
        ⟨some 24, .none, true, 22, .move (.tmp 0)⟩,
        ⟨some 25, .none, true, 3, .call { callee := .builtin .len, args := #[.tmp 24], argTypes := #[22] }⟩,
        ⟨some 26, .none, true, 4, .binOp .lss 3 (.tmp 23) (.tmp 25) 3⟩])
    (.keep [0, 3, 4, 26]
    (.cond (.tmp 26)
      .skip
      (.exit 0))))
  (.seq
    (.block 1
      (.seq
        (.region [⟨some 29, .none, true, 25, .load 25 (.tmp 3)⟩,
          ⟨some 30, .none, true, 3, .move (.tmp 4)⟩,
          ⟨some 31, .none, true, 3, .call { callee := .value (.func 11), args := #[.tmp 29, .tmp 30], argTypes := #[25, 3] }⟩,
          ⟨some 5, .none, true, 3, .assign (.tmp 31)⟩])
      (.keep [0, 3, 4, 5]
      (.seq
        (.seq
          (.region [⟨some 32, .none, true, 22, .move (.tmp 0)⟩,
            ⟨some 33, .none, true, 3, .move (.tmp 4)⟩,
            ⟨some 34, .none, true, 0, .indexAddr 22 (.tmp 32) (.tmp 33)⟩,
            ⟨some 35, .none, true, 3, .load 3 (.tmp 34)⟩,
            ⟨some 36, .none, true, 4, .binOp .eql 3 (.tmp 35) (.const (.int .i64 (-2))) 3⟩,
            ⟨some 37, .none, true, 4, .move (.tmp 36)⟩,
            ⟨some 38, .some 37 true, true, 3, .move (.tmp 5)⟩,
            ⟨some 39, .some 37 true, true, 4, .binOp .neq 3 (.tmp 38) (.const (.int .i64 (-1))) 3⟩,
            ⟨some 40, .none, true, 4, .pick (.tmp 37) (.tmp 39) (.const (.bool false))⟩,
            ⟨some 41, .none, true, 4, .move (.tmp 40)⟩,
            ⟨some 42, .some 41 false, true, 22, .move (.tmp 0)⟩,
            ⟨some 43, .some 41 false, true, 3, .move (.tmp 4)⟩,
            ⟨some 44, .some 41 false, true, 0, .indexAddr 22 (.tmp 42) (.tmp 43)⟩,
            ⟨some 45, .some 41 false, true, 3, .load 3 (.tmp 44)⟩,
            ⟨some 46, .some 41 false, true, 4, .binOp .eql 3 (.tmp 45) (.const (.int .i64 (-1))) 3⟩,
            ⟨some 47, .some 41 false, true, 4, .move (.tmp 46)⟩,
            ⟨some 48, .some 47 true, true, 3, .move (.tmp 5)⟩,
            ⟨some 49, .some 47 true, true, 4, .binOp .neq 3 (.tmp 48) (.const (.int .i64 0)) 3⟩,
            ⟨some 50, .some 41 false, true, 4, .pick (.tmp 47) (.tmp 49) (.const (.bool false))⟩,
            ⟨some 51, .none, true, 4, .pick (.tmp 41) (.const (.bool true)) (.tmp 50)⟩,
            ⟨some 52, .none, true, 4, .move (.tmp 51)⟩,
            ⟨some 53, .some 52 false, true, 22, .move (.tmp 0)⟩,
            ⟨some 54, .some 52 false, true, 3, .move (.tmp 4)⟩,
            ⟨some 55, .some 52 false, true, 0, .indexAddr 22 (.tmp 53) (.tmp 54)⟩,
            ⟨some 56, .some 52 false, true, 3, .load 3 (.tmp 55)⟩,
            ⟨some 57, .some 52 false, true, 4, .binOp .geq 3 (.tmp 56) (.const (.int .i64 0)) 3⟩,
            ⟨some 58, .some 52 false, true, 4, .move (.tmp 57)⟩,
            ⟨some 59, .some 58 true, false, 3, .move (.tmp 5)⟩,
            ⟨some 60, .some 58 true, false, 25, .load 25 (.tmp 3)⟩,
            ⟨some 61, .some 58 true, false, 22, .move (.tmp 0)⟩,
            ⟨some 62, .some 58 true, false, 3, .move (.tmp 4)⟩,
            ⟨some 63, .some 58 true, false, 0, .indexAddr 22 (.tmp 61) (.tmp 62)⟩,
            ⟨some 64, .some 58 true, false, 3, .load 3 (.tmp 63)⟩,
            ⟨some 65, .some 58 true, true, 3, .call { callee := .value (.func 11), args := #[.tmp 60, .tmp 64], argTypes := #[25, 3] }⟩,
            ⟨some 66, .some 58 true, true, 3, .binOp .add 3 (.tmp 65) (.const (.int .i64 1)) 3⟩,
            ⟨some 67, .some 58 true, true, 4, .binOp .neq 3 (.tmp 59) (.tmp 66) 3⟩,
            ⟨some 68, .some 52 false, true, 4, .pick (.tmp 58) (.tmp 67) (.const (.bool false))⟩,
            ⟨some 69, .none, true, 4, .pick (.tmp 52) (.const (.bool true)) (.tmp 68)⟩])
        (.keep [0, 3, 4, 5, 69]
        (.cond (.tmp 69)
          (.seq
            (.region [⟨some 2, .none, true, 4, .assign (.const (.bool false))⟩])
          .ret)
          .skip)))
      (.seq
        (.regionD [⟨some 70, .none, 25, .load 25 (.tmp 3), 0, []⟩,
          ⟨some 71, .none, 3, .move (.tmp 4), 1, []⟩,
          ⟨some 72, .none, 22, .call { callee := .value (.func 12), args := #[.tmp 70, .tmp 71], argTypes := #[25, 3] }, 2, []⟩,
          ⟨some 73, .none, 25, .load 25 (.tmp 3), 3, [2]⟩,
          ⟨some 74, .none, 3, .move (.tmp 4), 4, []⟩,
          ⟨some 75, .none, 22, .call { callee := .value (.func 13), args := #[.tmp 73, .tmp 74], argTypes := #[25, 3] }, 5, []⟩,
          ⟨some 6, .none, 22, .assign (.tmp 72), 6, []⟩,
          ⟨some 7, .none, 22, .assign (.tmp 75), 7, []⟩])
      (.keep [0, 3, 4, 5, 6, 7]
      (.seq
        (.region [⟨some 8, .none, true, 3, .assign (.const (.int .i64 0))⟩])
      (.keep [0, 3, 4, 5, 6, 7, 8]
      (.seq
        (.seq
          (.region [⟨some 9, .none, true, 3, .assign (.const (.int .i64 0))⟩])
        (.keep [0, 3, 4, 5, 6, 7, 8, 9]
        (.block 2
          (.loop [0, 3, 4, 5, 6, 7, 8, 9] rc_reevelaw10_ForestDepthsl0))))
      (.seq
        (.region [⟨some 112, .none, true, 3, .move (.tmp 8)⟩,
          ⟨some 113, .none, true, 22, .move (.tmp 6)⟩,
          ⟨some 114, .none, true, 3, .call { callee := .builtin .len, args := #[.tmp 113], argTypes := #[22] }⟩,
          ⟨some 115, .none, true, 4, .binOp .neq 3 (.tmp 112) (.tmp 114) 3⟩])
      (.keep [0, 3, 4, 115]
      (.cond (.tmp 115)
        (.seq
          (.region [⟨some 2, .none, true, 4, .assign (.const (.bool false))⟩])
        .ret)
        .skip))))))))))))
  (.keep [0, 3, 4]
  (.region [⟨some 27, .none, true, 3, .move (.tmp 4)⟩,
    ⟨some 28, .none, true, 3, .binOp .add 3 (.tmp 27) (.const (.int .i64 1)) 3⟩,
    ⟨some 4, .none, true, 3, .assign (.tmp 28)⟩]))))
def rc_reevelaw10_ForestDepths : RCode :=
  (.seq
    (.region [⟨some 2, .none, true, 4, .assign (.const (.bool false))⟩])
  (.keep [0]
  (.seq
    (.seq
      (.region [⟨some 11, .none, true, 4, .call { callee := .value (.func 8), args := #[], argTypes := #[] }⟩,
        ⟨some 12, .none, true, 4, .unOp .not 4 (.tmp 11)⟩])
    (.keep [0, 12]
    (.cond (.tmp 12)
      (.seq
        (.region [⟨some 2, .none, true, 4, .assign (.const (.bool false))⟩])
      .ret)
      .skip)))
  (.seq
    (.region [⟨some 13, .none, true, 22, .move (.tmp 0)⟩,
      ⟨some 14, .none, true, 25, .call { callee := .value (.func 9), args := #[.tmp 13], argTypes := #[22] }⟩,
      ⟨some 3, .none, true, 0, .alloc 25⟩,
      ⟨none, .none, true, 0, .store 25 (.tmp 3) (.tmp 14)⟩])
  (.keep [0, 3]
  (.seq
    (.seq
      (.region [⟨some 15, .none, true, 22, .move (.tmp 0)⟩,
        ⟨some 16, .none, true, 3, .call { callee := .builtin .len, args := #[.tmp 15], argTypes := #[22] }⟩,
        ⟨some 17, .none, true, 4, .binOp .gtr 3 (.tmp 16) (.const (.int .i64 96)) 3⟩,
        ⟨some 18, .none, true, 4, .move (.tmp 17)⟩,
        ⟨some 19, .some 18 false, true, 25, .load 25 (.tmp 3)⟩,
        ⟨some 20, .some 18 false, true, 4, .call { callee := .value (.func 10), args := #[.tmp 19], argTypes := #[25] }⟩,
        ⟨some 21, .some 18 false, true, 4, .unOp .not 4 (.tmp 20)⟩,
        ⟨some 22, .none, true, 4, .pick (.tmp 18) (.const (.bool true)) (.tmp 21)⟩])
    (.keep [0, 3, 22]
    (.cond (.tmp 22)
      (.seq
        (.region [⟨some 2, .none, true, 4, .assign (.const (.bool true))⟩])
      .ret)
      .skip)))
  (.seq
    (.seq
      (.region [⟨some 4, .none, true, 3, .assign (.const (.int .i64 0))⟩])
    (.keep [0, 3, 4]
    (.block 0
      (.loop [0, 3, 4] rc_reevelaw10_ForestDepthsl1))))
  (.seq
    (.region [⟨some 2, .none, true, 4, .assign (.const (.bool true))⟩])
  .ret))))))))
theorem t_reevelaw10_ForestDepths : FnT Try.prog f_reevelaw10_ForestDepths rc_reevelaw10_ForestDepths [.tmp 2] 1 := ⟨⟨[12], Try.f3, _, Try.func3, rfl, by kernel_rfl, by kernel_rfl, by kernel_rfl, rfl, by decide⟩, by kernel_rfl⟩
/-- reeve/reevelaw10.ForestCuts -/
abbrev f_reevelaw10_ForestCuts : FuncId := 4
def rc_reevelaw10_ForestCutsl0 : RCode :=
  (.seq
    (.seq
      (.region [⟨some 86, .none, true, 3, .move (.tmp 12)⟩,
        ⟨some 87, .none, true, 22, .move (.tmp 6)⟩,
        ⟨some 88, .none, true, 3, .call { callee := .builtin .len, args := #[.tmp 87], argTypes := #[22] }⟩,
        ⟨some 89, .none, true, 4, .binOp .lss 3 (.tmp 86) (.tmp 88) 3⟩])
    (.keep [0, 1, 6, 7, 9, 11, 12, 89]
    (.cond (.tmp 89)
      .skip
      (.exit 0))))
  (.seq
    (.block 1
      (.seq
        (.seq
          (.region [⟨some 92, .none, true, 22, .move (.tmp 6)⟩,
            ⟨some 93, .none, true, 3, .move (.tmp 12)⟩,
            ⟨some 94, .none, true, 0, .indexAddr 22 (.tmp 92) (.tmp 93)⟩,
            ⟨some 95, .none, true, 3, .load 3 (.tmp 94)⟩,
            ⟨some 96, .none, true, 4, .binOp .lss 3 (.tmp 95) (.const (.int .i64 0)) 3⟩,
            ⟨some 97, .none, true, 4, .move (.tmp 96)⟩,
            ⟨some 98, .some 97 false, true, 22, .move (.tmp 6)⟩,
            ⟨some 99, .some 97 false, true, 3, .move (.tmp 12)⟩,
            ⟨some 100, .some 97 false, true, 0, .indexAddr 22 (.tmp 98) (.tmp 99)⟩,
            ⟨some 101, .some 97 false, true, 3, .load 3 (.tmp 100)⟩,
            ⟨some 102, .some 97 false, true, 22, .move (.tmp 0)⟩,
            ⟨some 103, .some 97 false, true, 3, .call { callee := .builtin .len, args := #[.tmp 102], argTypes := #[22] }⟩,
            ⟨some 104, .some 97 false, true, 4, .binOp .geq 3 (.tmp 101) (.tmp 103) 3⟩,
            ⟨some 105, .none, true, 4, .pick (.tmp 97) (.const (.bool true)) (.tmp 104)⟩])
        (.keep [0, 1, 6, 7, 9, 11, 12, 105]
        (.cond (.tmp 105)
          (.seq
            (.region [⟨some 4, .none, true, 4, .assign (.const (.bool false))⟩])
          .ret)
          .skip)))
      (.region [⟨some 106, .none, true, 22, .move (.tmp 6)⟩,
        ⟨some 107, .none, true, 3, .move (.tmp 12)⟩,
        ⟨some 108, .none, true, 0, .indexAddr 22 (.tmp 106) (.tmp 107)⟩,
        ⟨some 109, .none, true, 3, .load 3 (.tmp 108)⟩,
        ⟨some 110, .none, true, 0, .indexAddr 33 (.tmp 11) (.tmp 109)⟩,
        ⟨none, .none, true, 0, .store 4 (.tmp 110) (.const (.bool true))⟩])))
  (.keep [0, 1, 6, 7, 9, 11, 12]
  (.region [⟨some 90, .none, true, 3, .move (.tmp 12)⟩,
    ⟨some 91, .none, true, 3, .binOp .add 3 (.tmp 90) (.const (.int .i64 1)) 3⟩,
    ⟨some 12, .none, true, 3, .assign (.tmp 91)⟩]))))
def rc_reevelaw10_ForestCutsl1 : RCode :=
  (.seq
    (.seq
      (.region [⟨some 111, .none, true, 3, .move (.tmp 13)⟩,
        ⟨some 112, .none, true, 22, .move (.tmp 0)⟩,
        ⟨some 113, .none, true, 3, .call { callee := .builtin .len, args := #[.tmp 112], argTypes := #[22] }⟩,
        ⟨some 114, .none, true, 4, .binOp .lss 3 (.tmp 111) (.tmp 113) 3⟩])
    (.keep [0, 1, 7, 9, 11, 13, 114]
    (.cond (.tmp 114)
      .skip
      (.exit 2))))
  (.seq
    (.block 3
      (.seq
        (.region [⟨some 117, .none, true, 3, .move (.tmp 13)⟩,
          ⟨some 118, .none, true, 0, .indexAddr 33 (.tmp 11) (.tmp 117)⟩,
          ⟨some 119, .none, true, 4, .load 4 (.tmp 118)⟩,
          ⟨some 120, .none, true, 4, .move (.tmp 119)⟩,
          ⟨some 121, .some 120 true, true, 0, .fieldAddr 25 (.tmp 7) 0⟩,
          ⟨some 122, .some 120 true, true, 22, .load 22 (.tmp 121)⟩,
          ⟨some 123, .some 120 true, false, 3, .move (.tmp 13)⟩,
          ⟨some 124, .some 120 true, true, 0, .indexAddr 22 (.tmp 122) (.tmp 123)⟩,
          ⟨some 125, .some 120 true, true, 3, .load 3 (.tmp 124)⟩,
          ⟨some 126, .some 120 true, true, 4, .binOp .neq 3 (.tmp 125) (.const (.int .i64 (-2))) 3⟩,
          ⟨some 127, .none, true, 4, .pick (.tmp 120) (.tmp 126) (.const (.bool false))⟩,
          ⟨some 128, .none, true, 4, .move (.tmp 127)⟩,
          ⟨some 129, .some 128 false, true, 3, .move (.tmp 13)⟩,
          ⟨some 130, .some 128 false, true, 0, .indexAddr 33 (.tmp 11) (.tmp 129)⟩,
          ⟨some 131, .some 128 false, true, 4, .load 4 (.tmp 130)⟩,
          ⟨some 132, .some 128 false, true, 4, .unOp .not 4 (.tmp 131)⟩,
          ⟨some 133, .some 128 false, true, 4, .move (.tmp 132)⟩,
          ⟨some 134, .some 133 true, false, 0, .fieldAddr 25 (.tmp 7) 0⟩,
          ⟨some 135, .some 133 true, false, 22, .load 22 (.tmp 134)⟩,
          ⟨some 136, .some 133 true, false, 3, .move (.tmp 13)⟩,
          ⟨some 137, .some 133 true, false, 0, .indexAddr 22 (.tmp 135) (.tmp 136)⟩,
          ⟨some 138, .some 133 true, false, 3, .load 3 (.tmp 137)⟩,
          ⟨some 139, .some 133 true, false, 22, .move (.tmp 0)⟩,
          ⟨some 140, .some 133 true, false, 3, .move (.tmp 13)⟩,
          ⟨some 141, .some 133 true, false, 0, .indexAddr 22 (.tmp 139) (.tmp 140)⟩,
          ⟨some 142, .some 133 true, false, 3, .load 3 (.tmp 141)⟩,
          ⟨some 143, .some 133 true, true, 4, .binOp .neq 3 (.tmp 138) (.tmp 142) 3⟩,
          ⟨some 144, .some 128 false, true, 4, .pick (.tmp 133) (.tmp 143) (.const (.bool false))⟩,
          ⟨some 145, .none, true, 4, .pick (.tmp 128) (.const (.bool true)) (.tmp 144)⟩,
          ⟨some 146, .none, true, 4, .move (.tmp 145)⟩,
          ⟨some 147, .some 146 false, true, 3, .move (.tmp 13)⟩,
          ⟨some 148, .some 146 false, true, 3, .move (.tmp 1)⟩,
          ⟨some 149, .some 146 false, true, 4, .binOp .neq 3 (.tmp 147) (.tmp 148) 3⟩,
          ⟨some 150, .some 146 false, true, 4, .move (.tmp 149)⟩,
          ⟨some 151, .some 150 true, true, 22, .move (.tmp 0)⟩,
          ⟨some 152, .some 150 true, true, 3, .move (.tmp 13)⟩,
          ⟨some 153, .some 150 true, true, 0, .indexAddr 22 (.tmp 151) (.tmp 152)⟩,
          ⟨some 154, .some 150 true, true, 3, .load 3 (.tmp 153)⟩,
          ⟨some 155, .some 150 true, false, 3, .move (.tmp 1)⟩,
          ⟨some 156, .some 150 true, true, 4, .binOp .neq 3 (.tmp 154) (.tmp 155) 3⟩,
          ⟨some 157, .some 146 false, true, 4, .pick (.tmp 150) (.tmp 156) (.const (.bool false))⟩,
          ⟨some 158, .some 146 false, true, 4, .move (.tmp 157)⟩,
          ⟨some 159, .some 158 true, false, 0, .fieldAddr 25 (.tmp 9) 0⟩,
          ⟨some 160, .some 158 true, false, 22, .load 22 (.tmp 159)⟩,
          ⟨some 161, .some 158 true, false, 3, .move (.tmp 13)⟩,
          ⟨some 162, .some 158 true, false, 0, .indexAddr 22 (.tmp 160) (.tmp 161)⟩,
          ⟨some 163, .some 158 true, false, 3, .load 3 (.tmp 162)⟩,
          ⟨some 164, .some 158 true, false, 22, .move (.tmp 0)⟩,
          ⟨some 165, .some 158 true, false, 3, .move (.tmp 13)⟩,
          ⟨some 166, .some 158 true, false, 0, .indexAddr 22 (.tmp 164) (.tmp 165)⟩,
          ⟨some 167, .some 158 true, false, 3, .load 3 (.tmp 166)⟩,
          ⟨some 168, .some 158 true, true, 4, .binOp .neq 3 (.tmp 163) (.tmp 167) 3⟩,
          ⟨some 169, .some 146 false, true, 4, .pick (.tmp 158) (.tmp 168) (.const (.bool false))⟩,
          ⟨some 170, .none, true, 4, .pick (.tmp 146) (.const (.bool true)) (.tmp 169)⟩,
          ⟨some 171, .none, true, 4, .move (.tmp 170)⟩,
          ⟨some 172, .some 171 false, true, 22, .move (.tmp 0)⟩,
          ⟨some 173, .some 171 false, true, 3, .move (.tmp 13)⟩,
          ⟨some 174, .some 171 false, true, 0, .indexAddr 22 (.tmp 172) (.tmp 173)⟩,
          ⟨some 175, .some 171 false, true, 3, .load 3 (.tmp 174)⟩,
          ⟨some 176, .some 171 false, false, 3, .move (.tmp 1)⟩,
          ⟨some 177, .some 171 false, true, 4, .binOp .eql 3 (.tmp 175) (.tmp 176) 3⟩,
          ⟨some 178, .some 171 false, true, 4, .move (.tmp 177)⟩,
          ⟨some 179, .some 178 true, false, 0, .fieldAddr 25 (.tmp 9) 0⟩,
          ⟨some 180, .some 178 true, false, 22, .load 22 (.tmp 179)⟩,
          ⟨some 181, .some 178 true, false, 3, .move (.tmp 13)⟩,
          ⟨some 182, .some 178 true, false, 0, .indexAddr 22 (.tmp 180) (.tmp 181)⟩,
          ⟨some 183, .some 178 true, false, 3, .load 3 (.tmp 182)⟩,
          ⟨some 184, .some 178 true, false, 22, .move (.tmp 0)⟩,
          ⟨some 185, .some 178 true, false, 3, .move (.tmp 1)⟩,
          ⟨some 186, .some 178 true, false, 0, .indexAddr 22 (.tmp 184) (.tmp 185)⟩,
          ⟨some 187, .some 178 true, false, 3, .load 3 (.tmp 186)⟩,
          ⟨some 188, .some 178 true, true, 4, .binOp .neq 3 (.tmp 183) (.tmp 187) 3⟩,
          ⟨some 189, .some 171 false, true, 4, .pick (.tmp 178) (.tmp 188) (.const (.bool false))⟩,
          ⟨some 190, .none, true, 4, .pick (.tmp 171) (.const (.bool true)) (.tmp 189)⟩])
      (.keep [0, 1, 7, 9, 11, 13, 190]
      (.cond (.tmp 190)
        (.seq
          (.region [⟨some 4, .none, true, 4, .assign (.const (.bool false))⟩])
        .ret)
        .skip))))
  (.keep [0, 1, 7, 9, 11, 13]
  (.region [⟨some 115, .none, true, 3, .move (.tmp 13)⟩,
    ⟨some 116, .none, true, 3, .binOp .add 3 (.tmp 115) (.const (.int .i64 1)) 3⟩,
    ⟨some 13, .none, true, 3, .assign (.tmp 116)⟩]))))
def rc_reevelaw10_ForestCuts : RCode :=
  (.seq
    (.region [⟨some 4, .none, true, 4, .assign (.const (.bool false))⟩])
  (.keep [0, 1]
  (.seq
    (.seq
      (.region [⟨some 14, .none, true, 4, .call { callee := .value (.func 8), args := #[], argTypes := #[] }⟩,
        ⟨some 15, .none, true, 4, .unOp .not 4 (.tmp 14)⟩])
    (.keep [0, 1, 15]
    (.cond (.tmp 15)
      (.seq
        (.region [⟨some 4, .none, true, 4, .assign (.const (.bool false))⟩])
      .ret)
      .skip)))
  (.seq
    (.region [⟨some 16, .none, true, 22, .move (.tmp 0)⟩,
      ⟨some 17, .none, true, 25, .call { callee := .value (.func 9), args := #[.tmp 16], argTypes := #[22] }⟩,
      ⟨some 5, .none, true, 0, .alloc 25⟩,
      ⟨none, .none, true, 0, .store 25 (.tmp 5) (.tmp 17)⟩])
  (.keep [0, 1, 5]
  (.seq
    (.seq
      (.region [⟨some 18, .none, true, 22, .move (.tmp 0)⟩,
        ⟨some 19, .none, true, 3, .call { callee := .builtin .len, args := #[.tmp 18], argTypes := #[22] }⟩,
        ⟨some 20, .none, true, 4, .binOp .gtr 3 (.tmp 19) (.const (.int .i64 96)) 3⟩,
        ⟨some 21, .none, true, 4, .move (.tmp 20)⟩,
        ⟨some 22, .some 21 false, true, 25, .load 25 (.tmp 5)⟩,
        ⟨some 23, .some 21 false, true, 4, .call { callee := .value (.func 10), args := #[.tmp 22], argTypes := #[25] }⟩,
        ⟨some 24, .some 21 false, true, 4, .unOp .not 4 (.tmp 23)⟩,
        ⟨some 25, .none, true, 4, .pick (.tmp 21) (.const (.bool true)) (.tmp 24)⟩,
        ⟨some 26, .none, true, 4, .move (.tmp 25)⟩,
        ⟨some 27, .some 26 false, true, 25, .load 25 (.tmp 5)⟩,
        ⟨some 28, .some 26 false, true, 3, .move (.tmp 1)⟩,
        ⟨some 29, .some 26 false, true, 3, .call { callee := .value (.func 11), args := #[.tmp 27, .tmp 28], argTypes := #[25, 3] }⟩,
        ⟨some 30, .some 26 false, true, 4, .binOp .lss 3 (.tmp 29) (.const (.int .i64 0)) 3⟩,
        ⟨some 31, .none, true, 4, .pick (.tmp 26) (.const (.bool true)) (.tmp 30)⟩])
    (.keep [0, 1, 5, 31]
    (.cond (.tmp 31)
      (.seq
        (.region [⟨some 4, .none, true, 4, .assign (.const (.bool true))⟩])
      .ret)
      .skip)))
  (.seq
    (.region [⟨some 32, .none, true, 25, .load 25 (.tmp 5)⟩,
      ⟨some 33, .none, true, 3, .move (.tmp 1)⟩,
      ⟨some 34, .none, true, 22, .call { callee := .value (.func 13), args := #[.tmp 32, .tmp 33], argTypes := #[25, 3] }⟩,
      ⟨some 6, .none, true, 22, .assign (.tmp 34)⟩])
  (.keep [0, 1, 5, 6]
  (.seq
    (.region [⟨some 36, .none, true, 25, .load 25 (.tmp 5)⟩,
      ⟨some 37, .none, true, 3, .move (.tmp 1)⟩,
      ⟨some 38, .none, true, 31, .call { callee := .value (.func 14), args := #[.tmp 36, .tmp 37], argTypes := #[25, 3] }⟩,
      ⟨some 35, .none, true, 31, .move (.tmp 38)⟩,
      ⟨some 39, .none, true, 25, .extract (.tmp 35) 0⟩,
      ⟨some 40, .none, true, 4, .extract (.tmp 35) 1⟩,
      ⟨some 7, .none, true, 0, .alloc 25⟩,
      ⟨none, .none, true, 0, .store 25 (.tmp 7) (.tmp 39)⟩,
      ⟨some 8, .none, true, 4, .assign (.tmp 40)⟩])
  (.keep [0, 1, 5, 6, 7, 8]
  (.seq
    (.region [⟨some 42, .none, true, 25, .load 25 (.tmp 5)⟩,
      ⟨some 43, .none, true, 3, .move (.tmp 1)⟩,
      ⟨some 44, .none, true, 31, .call { callee := .value (.func 15), args := #[.tmp 42, .tmp 43], argTypes := #[25, 3] }⟩,
      ⟨some 41, .none, true, 31, .move (.tmp 44)⟩,
      ⟨some 45, .none, true, 25, .extract (.tmp 41) 0⟩,
      ⟨some 46, .none, true, 4, .extract (.tmp 41) 1⟩,
      ⟨some 9, .none, true, 0, .alloc 25⟩,
      ⟨none, .none, true, 0, .store 25 (.tmp 9) (.tmp 45)⟩,
      ⟨some 10, .none, true, 4, .assign (.tmp 46)⟩])
  (.keep [0, 1, 6, 7, 8, 9, 10]
  (.seq
    (.seq
      (.region [⟨some 47, .none, true, 4, .move (.tmp 8)⟩,
        ⟨some 48, .none, true, 4, .unOp .not 4 (.tmp 47)⟩,
        ⟨some 49, .none, true, 4, .move (.tmp 48)⟩,
        ⟨some 50, .some 49 false, true, 4, .move (.tmp 10)⟩,
        ⟨some 51, .some 49 false, true, 4, .unOp .not 4 (.tmp 50)⟩,
        ⟨some 52, .none, true, 4, .pick (.tmp 49) (.const (.bool true)) (.tmp 51)⟩,
        ⟨some 53, .none, true, 4, .move (.tmp 52)⟩,
        ⟨some 54, .some 53 false, true, 25, .load 25 (.tmp 7)⟩,
        ⟨some 55, .some 53 false, true, 4, .call { callee := .value (.func 10), args := #[.tmp 54], argTypes := #[25] }⟩,
        ⟨some 56, .some 53 false, true, 4, .unOp .not 4 (.tmp 55)⟩,
        ⟨some 57, .none, true, 4, .pick (.tmp 53) (.const (.bool true)) (.tmp 56)⟩,
        ⟨some 58, .none, true, 4, .move (.tmp 57)⟩,
        ⟨some 59, .some 58 false, true, 25, .load 25 (.tmp 9)⟩,
        ⟨some 60, .some 58 false, true, 4, .call { callee := .value (.func 10), args := #[.tmp 59], argTypes := #[25] }⟩,
        ⟨some 61, .some 58 false, true, 4, .unOp .not 4 (.tmp 60)⟩,
        ⟨some 62, .none, true, 4, .pick (.tmp 58) (.const (.bool true)) (.tmp 61)⟩,
        ⟨some 63, .none, true, 4, .move (.tmp 62)⟩,
        ⟨some 64, .some 63 false, true, 25, .load 25 (.tmp 7)⟩,
        ⟨some 65, .some 63 false, true, 3, .move (.tmp 1)⟩,
        ⟨some 66, .some 63 false, true, 22, .call { callee := .value (.func 13), args := #[.tmp 64, .tmp 65], argTypes := #[25, 3] }⟩,
        ⟨some 67, .some 63 false, true, 3, .call { callee := .builtin .len, args := #[.tmp 66], argTypes := #[22] }⟩,
        ⟨some 68, .some 63 false, true, 4, .binOp .neq 3 (.tmp 67) (.const (.int .i64 0)) 3⟩,
        ⟨some 69, .none, true, 4, .pick (.tmp 63) (.const (.bool true)) (.tmp 68)⟩,
        ⟨some 70, .none, true, 4, .move (.tmp 69)⟩,
        ⟨some 71, .some 70 false, true, 0, .fieldAddr 25 (.tmp 7) 0⟩,
        ⟨some 72, .some 70 false, true, 22, .load 22 (.tmp 71)⟩,
        ⟨some 73, .some 70 false, true, 3, .call { callee := .builtin .len, args := #[.tmp 72], argTypes := #[22] }⟩,
        ⟨some 74, .some 70 false, true, 22, .move (.tmp 0)⟩,
        ⟨some 75, .some 70 false, true, 3, .call { callee := .builtin .len, args := #[.tmp 74], argTypes := #[22] }⟩,
        ⟨some 76, .some 70 false, true, 4, .binOp .neq 3 (.tmp 73) (.tmp 75) 3⟩,
        ⟨some 77, .none, true, 4, .pick (.tmp 70) (.const (.bool true)) (.tmp 76)⟩,
        ⟨some 78, .none, true, 4, .move (.tmp 77)⟩,
        ⟨some 79, .some 78 false, true, 0, .fieldAddr 25 (.tmp 9) 0⟩,
        ⟨some 80, .some 78 false, true, 22, .load 22 (.tmp 79)⟩,
        ⟨some 81, .some 78 false, true, 3, .call { callee := .builtin .len, args := #[.tmp 80], argTypes := #[22] }⟩,
        ⟨some 82, .some 78 false, true, 22, .move (.tmp 0)⟩,
        ⟨some 83, .some 78 false, true, 3, .call { callee := .builtin .len, args := #[.tmp 82], argTypes := #[22] }⟩,
        ⟨some 84, .some 78 false, true, 4, .binOp .neq 3 (.tmp 81) (.tmp 83) 3⟩,
        ⟨some 85, .none, true, 4, .pick (.tmp 78) (.const (.bool true)) (.tmp 84)⟩])
    (.keep [0, 1, 6, 7, 9, 85]
    (.cond (.tmp 85)
      (.seq
        (.region [⟨some 4, .none, true, 4, .assign (.const (.bool false))⟩])
      .ret)
      .skip)))
  (.seq
    (.region [⟨some 11, .none, true, 0, .alloc 33⟩])
  (.keep [0, 1, 6, 7, 9, 11]
  (.seq
    (.seq
      (.region [⟨some 12, .none, true, 3, .assign (.const (.int .i64 0))⟩])
    (.keep [0, 1, 6, 7, 9, 11, 12]
    (.block 0
      (.loop [0, 1, 6, 7, 9, 11, 12] rc_reevelaw10_ForestCutsl0))))
  (.seq
    (.seq
      (.region [⟨some 13, .none, true, 3, .assign (.const (.int .i64 0))⟩])
    (.keep [0, 1, 7, 9, 11, 13]
    (.block 2
      (.loop [0, 1, 7, 9, 11, 13] rc_reevelaw10_ForestCutsl1))))
  (.seq
    (.region [⟨some 191, .none, true, 0, .fieldAddr 25 (.tmp 9) 0⟩,
      ⟨some 192, .none, true, 22, .load 22 (.tmp 191)⟩,
      ⟨some 193, .none, true, 3, .move (.tmp 1)⟩,
      ⟨some 194, .none, true, 0, .indexAddr 22 (.tmp 192) (.tmp 193)⟩,
      ⟨some 195, .none, true, 3, .load 3 (.tmp 194)⟩,
      ⟨some 196, .none, true, 4, .binOp .eql 3 (.tmp 195) (.const (.int .i64 (-2))) 3⟩,
      ⟨some 4, .none, true, 4, .assign (.tmp 196)⟩])
  .ret))))))))))))))))))
theorem t_reevelaw10_ForestCuts : FnT Try.prog f_reevelaw10_ForestCuts rc_reevelaw10_ForestCuts [.tmp 4] 2 := ⟨⟨[], Try.f4, _, Try.func4, rfl, by kernel_rfl, by kernel_rfl, by kernel_rfl, rfl, by decide⟩, by kernel_rfl⟩
/-- reeve/reevelaw10.ForestGrows -/
abbrev f_reevelaw10_ForestGrows : FuncId := 5
def rc_reevelaw10_ForestGrowsl0 : RCode :=
  (.seq
    (.seq
      (.region [⟨some 118, .none, true, 3, .move (.tmp 18)⟩,
        ⟨some 119, .none, true, 22, .move (.tmp 0)⟩,
        ⟨some 120, .none, true, 3, .call { callee := .builtin .len, args := #[.tmp 119], argTypes := #[22] }⟩,
        ⟨some 121, .none, true, 4, .binOp .lss 3 (.tmp 118) (.tmp 120) 3⟩])
    (.keep [0, 16, 17, 18, 121]
    (.cond (.tmp 121)
      .skip
      (.exit 0))))
  (.seq
    (.block 1
      (.seq
        (.region [⟨some 124, .none, true, 22, .move (.tmp 0)⟩,
          ⟨some 125, .none, true, 3, .move (.tmp 18)⟩,
          ⟨some 126, .none, true, 0, .indexAddr 22 (.tmp 124) (.tmp 125)⟩,
          ⟨some 127, .none, true, 3, .load 3 (.tmp 126)⟩,
          ⟨some 128, .none, true, 4, .binOp .neq 3 (.tmp 127) (.const (.int .i64 (-2))) 3⟩])
      (.keep [0, 16, 17, 18, 128]
      (.cond (.tmp 128)
        (.region [⟨some 129, .none, true, 3, .move (.tmp 17)⟩,
          ⟨some 130, .none, true, 3, .binOp .add 3 (.tmp 129) (.const (.int .i64 1)) 3⟩,
          ⟨some 17, .none, true, 3, .assign (.tmp 130)⟩])
        .skip))))
  (.keep [0, 16, 17, 18]
  (.region [⟨some 122, .none, true, 3, .move (.tmp 18)⟩,
    ⟨some 123, .none, true, 3, .binOp .add 3 (.tmp 122) (.const (.int .i64 1)) 3⟩,
    ⟨some 18, .none, true, 3, .assign (.tmp 123)⟩]))))
def rc_reevelaw10_ForestGrowsl1 : RCode :=
  (.seq
    (.seq
      (.region [⟨some 131, .none, true, 3, .move (.tmp 20)⟩,
        ⟨some 132, .none, true, 22, .move (.tmp 16)⟩,
        ⟨some 133, .none, true, 3, .call { callee := .builtin .len, args := #[.tmp 132], argTypes := #[22] }⟩,
        ⟨some 134, .none, true, 4, .binOp .lss 3 (.tmp 131) (.tmp 133) 3⟩])
    (.keep [0, 16, 17, 19, 20, 134]
    (.cond (.tmp 134)
      .skip
      (.exit 2))))
  (.seq
    (.block 3
      (.seq
        (.seq
          (.region [⟨some 137, .none, true, 22, .move (.tmp 16)⟩,
            ⟨some 138, .none, true, 3, .move (.tmp 20)⟩,
            ⟨some 139, .none, true, 0, .indexAddr 22 (.tmp 137) (.tmp 138)⟩,
            ⟨some 140, .none, true, 3, .load 3 (.tmp 139)⟩,
            ⟨some 141, .none, true, 4, .binOp .lss 3 (.tmp 140) (.const (.int .i64 0)) 3⟩,
            ⟨some 142, .none, true, 4, .move (.tmp 141)⟩,
            ⟨some 143, .some 142 false, true, 22, .move (.tmp 16)⟩,
            ⟨some 144, .some 142 false, true, 3, .move (.tmp 20)⟩,
            ⟨some 145, .some 142 false, true, 0, .indexAddr 22 (.tmp 143) (.tmp 144)⟩,
            ⟨some 146, .some 142 false, true, 3, .load 3 (.tmp 145)⟩,
            ⟨some 147, .some 142 false, true, 22, .move (.tmp 0)⟩,
            ⟨some 148, .some 142 false, true, 3, .call { callee := .builtin .len, args := #[.tmp 147], argTypes := #[22] }⟩,
            ⟨some 149, .some 142 false, true, 4, .binOp .geq 3 (.tmp 146) (.tmp 148) 3⟩,
            ⟨some 150, .none, true, 4, .pick (.tmp 142) (.const (.bool true)) (.tmp 149)⟩,
            ⟨some 151, .none, true, 4, .move (.tmp 150)⟩,
            ⟨some 152, .some 151 false, true, 22, .move (.tmp 16)⟩,
            ⟨some 153, .some 151 false, true, 3, .move (.tmp 20)⟩,
            ⟨some 154, .some 151 false, true, 0, .indexAddr 22 (.tmp 152) (.tmp 153)⟩,
            ⟨some 155, .some 151 false, true, 3, .load 3 (.tmp 154)⟩,
            ⟨some 156, .some 151 false, true, 0, .indexAddr 33 (.tmp 19) (.tmp 155)⟩,
            ⟨some 157, .some 151 false, true, 4, .load 4 (.tmp 156)⟩,
            ⟨some 158, .none, true, 4, .pick (.tmp 151) (.const (.bool true)) (.tmp 157)⟩,
            ⟨some 159, .none, true, 4, .move (.tmp 158)⟩,
            ⟨some 160, .some 159 false, true, 22, .move (.tmp 0)⟩,
            ⟨some 161, .some 159 false, true, 22, .move (.tmp 16)⟩,
            ⟨some 162, .some 159 false, true, 3, .move (.tmp 20)⟩,
            ⟨some 163, .some 159 false, true, 0, .indexAddr 22 (.tmp 161) (.tmp 162)⟩,
            ⟨some 164, .some 159 false, true, 3, .load 3 (.tmp 163)⟩,
            ⟨some 165, .some 159 false, true, 0, .indexAddr 22 (.tmp 160) (.tmp 164)⟩,
            ⟨some 166, .some 159 false, true, 3, .load 3 (.tmp 165)⟩,
            ⟨some 167, .some 159 false, true, 4, .binOp .geq 3 (.tmp 166) (.const (.int .i64 0)) 3⟩,
            ⟨some 168, .some 159 false, true, 4, .move (.tmp 167)⟩,
            ⟨some 169, .some 168 true, true, 22, .move (.tmp 0)⟩,
            ⟨some 170, .some 168 true, true, 22, .move (.tmp 16)⟩,
            ⟨some 171, .some 168 true, true, 3, .move (.tmp 20)⟩,
            ⟨some 172, .some 168 true, true, 0, .indexAddr 22 (.tmp 170) (.tmp 171)⟩,
            ⟨some 173, .some 168 true, true, 3, .load 3 (.tmp 172)⟩,
            ⟨some 174, .some 168 true, true, 0, .indexAddr 22 (.tmp 169) (.tmp 173)⟩,
            ⟨some 175, .some 168 true, true, 3, .load 3 (.tmp 174)⟩,
            ⟨some 176, .some 168 true, true, 4, .binOp .gtr 3 (.tmp 175) (.const (.int .i64 95)) 3⟩,
            ⟨some 177, .some 168 true, true, 4, .move (.tmp 176)⟩,
            ⟨some 178, .some 177 false, true, 22, .move (.tmp 0)⟩,
            ⟨some 179, .some 177 false, true, 22, .move (.tmp 16)⟩,
            ⟨some 180, .some 177 false, true, 3, .move (.tmp 20)⟩,
            ⟨some 181, .some 177 false, true, 0, .indexAddr 22 (.tmp 179) (.tmp 180)⟩,
            ⟨some 182, .some 177 false, true, 3, .load 3 (.tmp 181)⟩,
            ⟨some 183, .some 177 false, true, 0, .indexAddr 22 (.tmp 178) (.tmp 182)⟩,
            ⟨some 184, .some 177 false, true, 3, .load 3 (.tmp 183)⟩,
            ⟨some 185, .some 177 false, true, 0, .indexAddr 33 (.tmp 19) (.tmp 184)⟩,
            ⟨some 186, .some 177 false, true, 4, .load 4 (.tmp 185)⟩,
            ⟨some 187, .some 177 false, true, 4, .unOp .not 4 (.tmp 186)⟩,
            ⟨some 188, .some 168 true, true, 4, .pick (.tmp 177) (.const (.bool true)) (.tmp 187)⟩,
            ⟨some 189, .some 159 false, true, 4, .pick (.tmp 168) (.tmp 188) (.const (.bool false))⟩,
            ⟨some 190, .none, true, 4, .pick (.tmp 159) (.const (.bool true)) (.tmp 189)⟩])
        (.keep [0, 16, 17, 19, 20, 190]
        (.cond (.tmp 190)
          (.seq
            (.region [⟨some 6, .none, true, 4, .assign (.const (.bool false))⟩])
          .ret)
          .skip)))
      (.region [⟨some 191, .none, true, 22, .move (.tmp 16)⟩,
        ⟨some 192, .none, true, 3, .move (.tmp 20)⟩,
        ⟨some 193, .none, true, 0, .indexAddr 22 (.tmp 191) (.tmp 192)⟩,
        ⟨some 194, .none, true, 3, .load 3 (.tmp 193)⟩,
        ⟨some 195, .none, true, 0, .indexAddr 33 (.tmp 19) (.tmp 194)⟩,
        ⟨none, .none, true, 0, .store 4 (.tmp 195) (.const (.bool true))⟩])))
  (.keep [0, 16, 17, 19, 20]
  (.region [⟨some 135, .none, true, 3, .move (.tmp 20)⟩,
    ⟨some 136, .none, true, 3, .binOp .add 3 (.tmp 135) (.const (.int .i64 1)) 3⟩,
    ⟨some 20, .none, true, 3, .assign (.tmp 136)⟩]))))
def rc_reevelaw10_ForestGrows : RCode :=
  (.seq
    (.region [⟨some 6, .none, true, 4, .assign (.const (.bool false))⟩])
  (.keep [0, 1, 2]
  (.seq
    (.seq
      (.region [⟨some 21, .none, true, 4, .call { callee := .value (.func 8), args := #[], argTypes := #[] }⟩,
        ⟨some 22, .none, true, 4, .unOp .not 4 (.tmp 21)⟩])
    (.keep [0, 1, 2, 22]
    (.cond (.tmp 22)
      (.seq
        (.region [⟨some 6, .none, true, 4, .assign (.const (.bool false))⟩])
      .ret)
      .skip)))
  (.seq
    (.region [⟨some 23, .none, true, 22, .move (.tmp 0)⟩,
      ⟨some 24, .none, true, 25, .call { callee := .value (.func 9), args := #[.tmp 23], argTypes := #[22] }⟩,
      ⟨some 7, .none, true, 0, .alloc 25⟩,
      ⟨none, .none, true, 0, .store 25 (.tmp 7) (.tmp 24)⟩])
  (.keep [0, 1, 2, 7]
  (.seq
    (.seq
      (.region [⟨some 25, .none, true, 22, .move (.tmp 0)⟩,
        ⟨some 26, .none, true, 3, .call { callee := .builtin .len, args := #[.tmp 25], argTypes := #[22] }⟩,
        ⟨some 27, .none, true, 4, .binOp .gtr 3 (.tmp 26) (.const (.int .i64 96)) 3⟩,
        ⟨some 28, .none, true, 4, .move (.tmp 27)⟩,
        ⟨some 29, .some 28 false, true, 25, .load 25 (.tmp 7)⟩,
        ⟨some 30, .some 28 false, true, 4, .call { callee := .value (.func 10), args := #[.tmp 29], argTypes := #[25] }⟩,
        ⟨some 31, .some 28 false, true, 4, .unOp .not 4 (.tmp 30)⟩,
        ⟨some 32, .none, true, 4, .pick (.tmp 28) (.const (.bool true)) (.tmp 31)⟩])
    (.keep [0, 1, 2, 7, 32]
    (.cond (.tmp 32)
      (.seq
        (.region [⟨some 6, .none, true, 4, .assign (.const (.bool true))⟩])
      .ret)
      .skip)))
  (.seq
    (.region [⟨some 34, .none, true, 25, .load 25 (.tmp 7)⟩,
      ⟨some 35, .none, true, 3, .move (.tmp 1)⟩,
      ⟨some 36, .none, true, 3, .move (.tmp 2)⟩,
      ⟨some 37, .none, true, 31, .call { callee := .value (.func 16), args := #[.tmp 34, .tmp 35, .tmp 36], argTypes := #[25, 3, 3] }⟩,
      ⟨some 33, .none, true, 31, .move (.tmp 37)⟩,
      ⟨some 38, .none, true, 25, .extract (.tmp 33) 0⟩,
      ⟨some 39, .none, true, 4, .extract (.tmp 33) 1⟩,
      ⟨some 8, .none, true, 0, .alloc 25⟩,
      ⟨none, .none, true, 0, .store 25 (.tmp 8) (.tmp 38)⟩,
      ⟨some 9, .none, true, 4, .assign (.tmp 39)⟩])
  (.keep [0, 1, 2, 7, 8, 9]
  (.seq
    (.seq
      (.region [⟨some 40, .none, true, 4, .move (.tmp 9)⟩])
    (.keep [0, 1, 2, 7, 8, 40]
    (.cond (.tmp 40)
      (.seq
        (.region [⟨some 42, .none, true, 25, .load 25 (.tmp 8)⟩,
          ⟨some 43, .none, true, 3, .move (.tmp 1)⟩,
          ⟨some 44, .none, true, 31, .call { callee := .value (.func 15), args := #[.tmp 42, .tmp 43], argTypes := #[25, 3] }⟩,
          ⟨some 41, .none, true, 31, .move (.tmp 44)⟩,
          ⟨some 45, .none, true, 25, .extract (.tmp 41) 0⟩,
          ⟨some 46, .none, true, 4, .extract (.tmp 41) 1⟩,
          ⟨some 10, .none, true, 0, .alloc 25⟩,
          ⟨none, .none, true, 0, .store 25 (.tmp 10) (.tmp 45)⟩,
          ⟨some 11, .none, true, 4, .assign (.tmp 46)⟩])
      (.keep [0, 1, 2, 7, 8, 10, 11]
      (.seq
        (.region [⟨some 47, .none, true, 4, .move (.tmp 11)⟩,
          ⟨some 48, .none, true, 4, .unOp .not 4 (.tmp 47)⟩,
          ⟨some 49, .none, true, 4, .move (.tmp 48)⟩,
          ⟨some 50, .some 49 false, true, 25, .load 25 (.tmp 8)⟩,
          ⟨some 51, .some 49 false, true, 4, .call { callee := .value (.func 10), args := #[.tmp 50], argTypes := #[25] }⟩,
          ⟨some 52, .some 49 false, true, 4, .unOp .not 4 (.tmp 51)⟩,
          ⟨some 53, .none, true, 4, .pick (.tmp 49) (.const (.bool true)) (.tmp 52)⟩,
          ⟨some 54, .none, true, 4, .move (.tmp 53)⟩,
          ⟨some 55, .some 54 false, true, 0, .fieldAddr 25 (.tmp 10) 0⟩,
          ⟨some 56, .some 54 false, true, 22, .load 22 (.tmp 55)⟩,
          ⟨some 57, .some 54 false, true, 22, .move (.tmp 0)⟩,
          ⟨some 58, .some 54 false, true, 4, .call { callee := .value (.func 17), args := #[.tmp 56, .tmp 57], argTypes := #[22, 22] }⟩,
          ⟨some 59, .some 54 false, true, 4, .unOp .not 4 (.tmp 58)⟩,
          ⟨some 60, .none, true, 4, .pick (.tmp 54) (.const (.bool true)) (.tmp 59)⟩,
          ⟨some 61, .none, true, 4, .move (.tmp 60)⟩,
          ⟨some 62, .some 61 false, true, 25, .load 25 (.tmp 8)⟩,
          ⟨some 63, .some 61 false, true, 3, .move (.tmp 1)⟩,
          ⟨some 64, .some 61 false, true, 3, .call { callee := .value (.func 11), args := #[.tmp 62, .tmp 63], argTypes := #[25, 3] }⟩,
          ⟨some 65, .some 61 false, true, 4, .binOp .lss 3 (.tmp 64) (.const (.int .i64 0)) 3⟩,
          ⟨some 66, .none, true, 4, .pick (.tmp 61) (.const (.bool true)) (.tmp 65)⟩])
      (.keep [0, 1, 2, 7, 66]
      (.cond (.tmp 66)
        (.seq
          (.region [⟨some 6, .none, true, 4, .assign (.const (.bool false))⟩])
        .ret)
        .skip)))))
      .skip)))
  (.seq
    (.region [⟨some 68, .none, true, 25, .load 25 (.tmp 7)⟩,
      ⟨some 69, .none, true, 3, .move (.tmp 1)⟩,
      ⟨some 70, .none, true, 3, .move (.tmp 2)⟩,
      ⟨some 71, .none, true, 31, .call { callee := .value (.func 18), args := #[.tmp 68, .tmp 69, .tmp 70], argTypes := #[25, 3, 3] }⟩,
      ⟨some 67, .none, true, 31, .move (.tmp 71)⟩,
      ⟨some 72, .none, true, 25, .extract (.tmp 67) 0⟩,
      ⟨some 73, .none, true, 4, .extract (.tmp 67) 1⟩,
      ⟨some 12, .none, true, 0, .alloc 25⟩,
      ⟨none, .none, true, 0, .store 25 (.tmp 12) (.tmp 72)⟩,
      ⟨some 13, .none, true, 4, .assign (.tmp 73)⟩])
  (.keep [0, 1, 2, 7, 12, 13]
  (.seq
    (.seq
      (.region [⟨some 74, .none, true, 4, .move (.tmp 13)⟩])
    (.keep [0, 1, 2, 7, 12, 74]
    (.cond (.tmp 74)
      (.seq
        (.region [⟨some 76, .none, true, 25, .load 25 (.tmp 12)⟩,
          ⟨some 77, .none, true, 3, .move (.tmp 2)⟩,
          ⟨some 78, .none, true, 3, .move (.tmp 1)⟩,
          ⟨some 79, .none, true, 31, .call { callee := .value (.func 18), args := #[.tmp 76, .tmp 77, .tmp 78], argTypes := #[25, 3, 3] }⟩,
          ⟨some 75, .none, true, 31, .move (.tmp 79)⟩,
          ⟨some 80, .none, true, 25, .extract (.tmp 75) 0⟩,
          ⟨some 81, .none, true, 4, .extract (.tmp 75) 1⟩,
          ⟨some 14, .none, true, 0, .alloc 25⟩,
          ⟨none, .none, true, 0, .store 25 (.tmp 14) (.tmp 80)⟩,
          ⟨some 15, .none, true, 4, .assign (.tmp 81)⟩])
      (.keep [0, 1, 2, 7, 12, 14, 15]
      (.seq
        (.regionD [⟨some 82, .none, 4, .move (.tmp 15), 0, []⟩,
          ⟨some 83, .none, 4, .unOp .not 4 (.tmp 82), 1, []⟩,
          ⟨some 84, .none, 4, .move (.tmp 83), 2, []⟩,
          ⟨some 85, .some 84 false, 25, .load 25 (.tmp 12), 3, []⟩,
          ⟨some 86, .some 84 false, 4, .call { callee := .value (.func 10), args := #[.tmp 85], argTypes := #[25] }, 4, []⟩,
          ⟨some 87, .some 84 false, 4, .unOp .not 4 (.tmp 86), 5, []⟩,
          ⟨some 88, .none, 4, .pick (.tmp 84) (.const (.bool true)) (.tmp 87), 6, []⟩,
          ⟨some 89, .none, 4, .move (.tmp 88), 7, []⟩,
          ⟨some 90, .some 89 false, 0, .fieldAddr 25 (.tmp 14) 0, 8, []⟩,
          ⟨some 91, .some 89 false, 22, .load 22 (.tmp 90), 9, []⟩,
          ⟨some 92, .some 89 false, 22, .move (.tmp 0), 10, []⟩,
          ⟨some 93, .some 89 false, 4, .call { callee := .value (.func 17), args := #[.tmp 91, .tmp 92], argTypes := #[22, 22] }, 11, []⟩,
          ⟨some 94, .some 89 false, 4, .unOp .not 4 (.tmp 93), 12, []⟩,
          ⟨some 95, .none, 4, .pick (.tmp 89) (.const (.bool true)) (.tmp 94), 13, []⟩,
          ⟨some 96, .none, 4, .move (.tmp 95), 14, []⟩,
          ⟨some 97, .some 96 false, 25, .load 25 (.tmp 12), 15, []⟩,
          ⟨some 98, .some 96 false, 3, .move (.tmp 2), 16, []⟩,
          ⟨some 99, .some 96 false, 3, .call { callee := .value (.func 11), args := #[.tmp 97, .tmp 98], argTypes := #[25, 3] }, 17, []⟩,
          ⟨some 100, .some 96 false, 25, .load 25 (.tmp 7), 18, [17]⟩,
          ⟨some 101, .some 96 false, 3, .move (.tmp 1), 19, []⟩,
          ⟨some 102, .some 96 false, 3, .call { callee := .value (.func 11), args := #[.tmp 100, .tmp 101], argTypes := #[25, 3] }, 20, []⟩,
          ⟨some 103, .some 96 false, 4, .binOp .neq 3 (.tmp 99) (.tmp 102) 3, 21, []⟩,
          ⟨some 104, .none, 4, .pick (.tmp 96) (.const (.bool true)) (.tmp 103), 22, []⟩,
          ⟨some 105, .none, 4, .move (.tmp 104), 23, []⟩,
          ⟨some 106, .some 105 false, 25, .load 25 (.tmp 12), 24, []⟩,
          ⟨some 107, .some 105 false, 3, .move (.tmp 2), 25, []⟩,
          ⟨some 108, .some 105 false, 22, .call { callee := .value (.func 13), args := #[.tmp 106, .tmp 107], argTypes := #[25, 3] }, 26, []⟩,
          ⟨some 109, .some 105 false, 3, .call { callee := .builtin .len, args := #[.tmp 108], argTypes := #[22] }, 27, []⟩,
          ⟨some 110, .some 105 false, 25, .load 25 (.tmp 7), 28, [26]⟩,
          ⟨some 111, .some 105 false, 3, .move (.tmp 1), 29, []⟩,
          ⟨some 112, .some 105 false, 22, .call { callee := .value (.func 13), args := #[.tmp 110, .tmp 111], argTypes := #[25, 3] }, 30, []⟩,
          ⟨some 113, .some 105 false, 3, .call { callee := .builtin .len, args := #[.tmp 112], argTypes := #[22] }, 31, []⟩,
          ⟨some 114, .some 105 false, 4, .binOp .neq 3 (.tmp 109) (.tmp 113) 3, 32, []⟩,
          ⟨some 115, .none, 4, .pick (.tmp 105) (.const (.bool true)) (.tmp 114), 33, []⟩])
      (.keep [0, 7, 115]
      (.cond (.tmp 115)
        (.seq
          (.region [⟨some 6, .none, true, 4, .assign (.const (.bool false))⟩])
        .ret)
        .skip)))))
      .skip)))
  (.seq
    (.region [⟨some 116, .none, true, 25, .load 25 (.tmp 7)⟩,
      ⟨some 117, .none, true, 22, .call { callee := .value (.func 19), args := #[.tmp 116], argTypes := #[25] }⟩,
      ⟨some 16, .none, true, 22, .assign (.tmp 117)⟩])
  (.keep [0, 16]
  (.seq
    (.region [⟨some 17, .none, true, 3, .assign (.const (.int .i64 0))⟩])
  (.keep [0, 16, 17]
  (.seq
    (.seq
      (.region [⟨some 18, .none, true, 3, .assign (.const (.int .i64 0))⟩])
    (.keep [0, 16, 17, 18]
    (.block 0
      (.loop [0, 16, 17, 18] rc_reevelaw10_ForestGrowsl0))))
  (.seq
    (.region [⟨some 19, .none, true, 0, .alloc 33⟩])
  (.keep [0, 16, 17, 19]
  (.seq
    (.seq
      (.region [⟨some 20, .none, true, 3, .assign (.const (.int .i64 0))⟩])
    (.keep [0, 16, 17, 19, 20]
    (.block 2
      (.loop [0, 16, 17, 19, 20] rc_reevelaw10_ForestGrowsl1))))
  (.seq
    (.region [⟨some 196, .none, true, 22, .move (.tmp 16)⟩,
      ⟨some 197, .none, true, 3, .call { callee := .builtin .len, args := #[.tmp 196], argTypes := #[22] }⟩,
      ⟨some 198, .none, true, 3, .move (.tmp 17)⟩,
      ⟨some 199, .none, true, 4, .binOp .eql 3 (.tmp 197) (.tmp 198) 3⟩,
      ⟨some 6, .none, true, 4, .assign (.tmp 199)⟩])
  .ret)))))))))))))))))))))
theorem t_reevelaw10_ForestGrows : FnT Try.prog f_reevelaw10_ForestGrows rc_reevelaw10_ForestGrows [.tmp 6] 3 := ⟨⟨[14], Try.f5, _, Try.func5, rfl, by kernel_rfl, by kernel_rfl, by kernel_rfl, rfl, by decide⟩, by kernel_rfl⟩
/-- reeve/reevelaw10.ForestSays -/
abbrev f_reevelaw10_ForestSays : FuncId := 7
def rc_reevelaw10_ForestSays : RCode :=
  (.seq
    (.region [⟨some 6, .none, true, 4, .assign (.const (.bool false))⟩])
  (.keep [0, 1, 2]
  (.seq
    (.seq
      (.region [⟨some 24, .none, true, 4, .call { callee := .value (.func 8), args := #[], argTypes := #[] }⟩,
        ⟨some 25, .none, true, 4, .unOp .not 4 (.tmp 24)⟩])
    (.keep [0, 1, 2, 25]
    (.cond (.tmp 25)
      (.seq
        (.region [⟨some 6, .none, true, 4, .assign (.const (.bool false))⟩])
      .ret)
      .skip)))
  (.seq
    (.seq
      (.region [⟨some 26, .none, true, 22, .move (.tmp 0)⟩,
        ⟨some 27, .none, true, 3, .call { callee := .builtin .len, args := #[.tmp 26], argTypes := #[22] }⟩,
        ⟨some 28, .none, true, 4, .binOp .gtr 3 (.tmp 27) (.const (.int .i64 100)) 3⟩])
    (.keep [0, 1, 2, 28]
    (.cond (.tmp 28)
      (.seq
        (.region [⟨some 6, .none, true, 4, .assign (.const (.bool true))⟩])
      .ret)
      .skip)))
  (.seq
    (.region [⟨some 29, .none, true, 22, .move (.tmp 0)⟩,
      ⟨some 30, .none, true, 25, .call { callee := .value (.func 9), args := #[.tmp 29], argTypes := #[22] }⟩,
      ⟨some 7, .none, true, 0, .alloc 25⟩,
      ⟨none, .none, true, 0, .store 25 (.tmp 7) (.tmp 30)⟩])
  (.keep [0, 1, 2, 7]
  (.seq
    (.region [⟨some 32, .none, true, 25, .load 25 (.tmp 7)⟩,
      ⟨some 33, .none, true, 3, .move (.tmp 1)⟩,
      ⟨some 34, .none, true, 3, .move (.tmp 2)⟩,
      ⟨some 35, .none, true, 31, .call { callee := .value (.func 16), args := #[.tmp 32, .tmp 33, .tmp 34], argTypes := #[25, 3, 3] }⟩,
      ⟨some 31, .none, true, 31, .move (.tmp 35)⟩,
      ⟨some 36, .none, true, 25, .extract (.tmp 31) 0⟩,
      ⟨some 37, .none, true, 4, .extract (.tmp 31) 1⟩,
      ⟨some 8, .none, true, 0, .alloc 25⟩,
      ⟨none, .none, true, 0, .store 25 (.tmp 8) (.tmp 36)⟩,
      ⟨some 9, .none, true, 4, .assign (.tmp 37)⟩])
  (.keep [0, 1, 2, 7, 8, 9]
  (.seq
    (.region [⟨some 39, .none, true, 22, .move (.tmp 0)⟩,
      ⟨some 40, .none, true, 3, .move (.tmp 1)⟩,
      ⟨some 41, .none, true, 3, .move (.tmp 2)⟩,
      ⟨some 42, .none, true, 40, .call { callee := .value (.func 20), args := #[.tmp 39, .tmp 40, .tmp 41], argTypes := #[22, 3, 3] }⟩,
      ⟨some 38, .none, true, 40, .move (.tmp 42)⟩,
      ⟨some 43, .none, true, 22, .extract (.tmp 38) 0⟩,
      ⟨some 44, .none, true, 4, .extract (.tmp 38) 1⟩,
      ⟨some 10, .none, true, 22, .assign (.tmp 43)⟩,
      ⟨some 11, .none, true, 4, .assign (.tmp 44)⟩])
  (.keep [0, 1, 2, 7, 8, 9, 10, 11]
  (.seq
    (.region [⟨some 46, .none, true, 25, .load 25 (.tmp 7)⟩,
      ⟨some 47, .none, true, 3, .move (.tmp 1)⟩,
      ⟨some 48, .none, true, 31, .call { callee := .value (.func 15), args := #[.tmp 46, .tmp 47], argTypes := #[25, 3] }⟩,
      ⟨some 45, .none, true, 31, .move (.tmp 48)⟩,
      ⟨some 49, .none, true, 25, .extract (.tmp 45) 0⟩,
      ⟨some 50, .none, true, 4, .extract (.tmp 45) 1⟩,
      ⟨some 12, .none, true, 0, .alloc 25⟩,
      ⟨none, .none, true, 0, .store 25 (.tmp 12) (.tmp 49)⟩,
      ⟨some 13, .none, true, 4, .assign (.tmp 50)⟩])
  (.keep [0, 1, 2, 7, 8, 9, 10, 11, 12, 13]
  (.seq
    (.region [⟨some 52, .none, true, 22, .move (.tmp 0)⟩,
      ⟨some 53, .none, true, 3, .move (.tmp 1)⟩,
      ⟨some 54, .none, true, 40, .call { callee := .value (.func 21), args := #[.tmp 52, .tmp 53], argTypes := #[22, 3] }⟩,
      ⟨some 51, .none, true, 40, .move (.tmp 54)⟩,
      ⟨some 55, .none, true, 22, .extract (.tmp 51) 0⟩,
      ⟨some 56, .none, true, 4, .extract (.tmp 51) 1⟩,
      ⟨some 14, .none, true, 22, .assign (.tmp 55)⟩,
      ⟨some 15, .none, true, 4, .assign (.tmp 56)⟩])
  (.keep [0, 1, 2, 7, 8, 9, 10, 11, 12, 13, 14, 15]
  (.seq
    (.region [⟨some 58, .none, true, 25, .load 25 (.tmp 7)⟩,
      ⟨some 59, .none, true, 3, .move (.tmp 1)⟩,
      ⟨some 60, .none, true, 3, .move (.tmp 2)⟩,
      ⟨some 61, .none, true, 31, .call { callee := .value (.func 18), args := #[.tmp 58, .tmp 59, .tmp 60], argTypes := #[25, 3, 3] }⟩,
      ⟨some 57, .none, true, 31, .move (.tmp 61)⟩,
      ⟨some 62, .none, true, 25, .extract (.tmp 57) 0⟩,
      ⟨some 63, .none, true, 4, .extract (.tmp 57) 1⟩,
      ⟨some 16, .none, true, 0, .alloc 25⟩,
      ⟨none, .none, true, 0, .store 25 (.tmp 16) (.tmp 62)⟩,
      ⟨some 17, .none, true, 4, .assign (.tmp 63)⟩])
  (.keep [0, 1, 2, 7, 8, 9, 10, 11, 12, 13, 14, 15, 16, 17]
  (.seq
    (.region [⟨some 65, .none, true, 22, .move (.tmp 0)⟩,
      ⟨some 66, .none, true, 3, .move (.tmp 1)⟩,
      ⟨some 67, .none, true, 3, .move (.tmp 2)⟩,
      ⟨some 68, .none, true, 40, .call { callee := .value (.func 22), args := #[.tmp 65, .tmp 66, .tmp 67], argTypes := #[22, 3, 3] }⟩,
      ⟨some 64, .none, true, 40, .move (.tmp 68)⟩,
      ⟨some 69, .none, true, 22, .extract (.tmp 64) 0⟩,
      ⟨some 70, .none, true, 4, .extract (.tmp 64) 1⟩,
      ⟨some 18, .none, true, 22, .assign (.tmp 69)⟩,
      ⟨some 19, .none, true, 4, .assign (.tmp 70)⟩])
  (.keep [0, 1, 7, 8, 9, 10, 11, 12, 13, 14, 15, 16, 17, 18, 19]
  (.seq
    (.region [⟨some 72, .none, true, 25, .load 25 (.tmp 7)⟩,
      ⟨some 73, .none, true, 3, .move (.tmp 1)⟩,
      ⟨some 74, .none, true, 31, .call { callee := .value (.func 14), args := #[.tmp 72, .tmp 73], argTypes := #[25, 3] }⟩,
      ⟨some 71, .none, true, 31, .move (.tmp 74)⟩,
      ⟨some 75, .none, true, 25, .extract (.tmp 71) 0⟩,
      ⟨some 76, .none, true, 4, .extract (.tmp 71) 1⟩,
      ⟨some 20, .none, true, 0, .alloc 25⟩,
      ⟨none, .none, true, 0, .store 25 (.tmp 20) (.tmp 75)⟩,
      ⟨some 21, .none, true, 4, .assign (.tmp 76)⟩])
  (.keep [0, 1, 7, 8, 9, 10, 11, 12, 13, 14, 15, 16, 17, 18, 19, 20, 21]
  (.seq
    (.region [⟨some 78, .none, true, 22, .move (.tmp 0)⟩,
      ⟨some 79, .none, true, 3, .move (.tmp 1)⟩,
      ⟨some 80, .none, true, 40, .call { callee := .value (.func 23), args := #[.tmp 78, .tmp 79], argTypes := #[22, 3] }⟩,
      ⟨some 77, .none, true, 40, .move (.tmp 80)⟩,
      ⟨some 81, .none, true, 22, .extract (.tmp 77) 0⟩,
      ⟨some 82, .none, true, 4, .extract (.tmp 77) 1⟩,
      ⟨some 22, .none, true, 22, .assign (.tmp 81)⟩,
      ⟨some 23, .none, true, 4, .assign (.tmp 82)⟩])
  (.keep [0, 1, 7, 8, 9, 10, 11, 12, 13, 14, 15, 16, 17, 18, 19, 20, 21, 22, 23]
  (.seq
    (.region [⟨some 83, .none, true, 25, .load 25 (.tmp 7)⟩,
      ⟨some 84, .none, true, 4, .call { callee := .value (.func 10), args := #[.tmp 83], argTypes := #[25] }⟩,
      ⟨some 85, .none, true, 22, .move (.tmp 0)⟩,
      ⟨some 86, .none, true, 4, .call { callee := .value (.func 24), args := #[.tmp 85], argTypes := #[22] }⟩,
      ⟨some 87, .none, true, 4, .binOp .eql 4 (.tmp 84) (.tmp 86) 4⟩,
      ⟨some 88, .none, true, 4, .move (.tmp 87)⟩,
      ⟨some 89, .some 88 true, true, 25, .load 25 (.tmp 7)⟩,
      ⟨some 90, .some 88 true, true, 3, .move (.tmp 1)⟩,
      ⟨some 91, .some 88 true, true, 3, .call { callee := .value (.func 11), args := #[.tmp 89, .tmp 90], argTypes := #[25, 3] }⟩,
      ⟨some 92, .some 88 true, true, 22, .move (.tmp 0)⟩,
      ⟨some 93, .some 88 true, true, 3, .move (.tmp 1)⟩,
      ⟨some 94, .some 88 true, true, 3, .call { callee := .value (.func 25), args := #[.tmp 92, .tmp 93], argTypes := #[22, 3] }⟩,
      ⟨some 95, .some 88 true, true, 4, .binOp .eql 3 (.tmp 91) (.tmp 94) 3⟩,
      ⟨some 96, .none, true, 4, .pick (.tmp 88) (.tmp 95) (.const (.bool false))⟩,
      ⟨some 97, .none, true, 4, .move (.tmp 96)⟩,
      ⟨some 98, .some 97 true, true, 25, .load 25 (.tmp 7)⟩,
      ⟨some 99, .some 97 true, true, 3, .move (.tmp 1)⟩,
      ⟨some 100, .some 97 true, true, 22, .call { callee := .value (.func 12), args := #[.tmp 98, .tmp 99], argTypes := #[25, 3] }⟩,
      ⟨some 101, .some 97 true, true, 22, .move (.tmp 0)⟩,
      ⟨some 102, .some 97 true, true, 3, .move (.tmp 1)⟩,
      ⟨some 103, .some 97 true, true, 22, .call { callee := .value (.func 26), args := #[.tmp 101, .tmp 102], argTypes := #[22, 3] }⟩,
      ⟨some 104, .some 97 true, true, 4, .call { callee := .value (.func 17), args := #[.tmp 100, .tmp 103], argTypes := #[22, 22] }⟩,
      ⟨some 105, .none, true, 4, .pick (.tmp 97) (.tmp 104) (.const (.bool false))⟩,
      ⟨some 106, .none, true, 4, .move (.tmp 105)⟩,
      ⟨some 107, .some 106 true, true, 25, .load 25 (.tmp 7)⟩,
      ⟨some 108, .some 106 true, true, 3, .move (.tmp 1)⟩,
      ⟨some 109, .some 106 true, true, 22, .call { callee := .value (.func 13), args := #[.tmp 107, .tmp 108], argTypes := #[25, 3] }⟩,
      ⟨some 110, .some 106 true, true, 22, .move (.tmp 0)⟩,
      ⟨some 111, .some 106 true, true, 3, .move (.tmp 1)⟩,
      ⟨some 112, .some 106 true, true, 22, .call { callee := .value (.func 27), args := #[.tmp 110, .tmp 111], argTypes := #[22, 3] }⟩,
      ⟨some 113, .some 106 true, true, 4, .call { callee := .value (.func 17), args := #[.tmp 109, .tmp 112], argTypes := #[22, 22] }⟩,
      ⟨some 114, .none, true, 4, .pick (.tmp 106) (.tmp 113) (.const (.bool false))⟩,
      ⟨some 115, .none, true, 4, .move (.tmp 114)⟩,
      ⟨some 116, .some 115 true, true, 25, .load 25 (.tmp 7)⟩,
      ⟨some 117, .some 115 true, true, 22, .call { callee := .value (.func 19), args := #[.tmp 116], argTypes := #[25] }⟩,
      ⟨some 118, .some 115 true, true, 22, .move (.tmp 0)⟩,
      ⟨some 119, .some 115 true, true, 22, .call { callee := .value (.func 28), args := #[.tmp 118], argTypes := #[22] }⟩,
      ⟨some 120, .some 115 true, true, 4, .call { callee := .value (.func 17), args := #[.tmp 117, .tmp 119], argTypes := #[22, 22] }⟩,
      ⟨some 121, .none, true, 4, .pick (.tmp 115) (.tmp 120) (.const (.bool false))⟩,
      ⟨some 122, .none, true, 4, .move (.tmp 121)⟩,
      ⟨some 123, .some 122 true, true, 4, .move (.tmp 9)⟩,
      ⟨some 124, .some 122 true, true, 4, .move (.tmp 11)⟩,
      ⟨some 125, .some 122 true, true, 4, .binOp .eql 4 (.tmp 123) (.tmp 124) 4⟩,
      ⟨some 126, .none, true, 4, .pick (.tmp 122) (.tmp 125) (.const (.bool false))⟩,
      ⟨some 127, .none, true, 4, .move (.tmp 126)⟩,
      ⟨some 128, .some 127 true, true, 0, .fieldAddr 25 (.tmp 8) 0⟩,
      ⟨some 129, .some 127 true, true, 22, .load 22 (.tmp 128)⟩,
      ⟨some 130, .some 127 true, true, 22, .move (.tmp 10)⟩,
      ⟨some 131, .some 127 true, true, 4, .call { callee := .value (.func 17), args := #[.tmp 129, .tmp 130], argTypes := #[22, 22] }⟩,
      ⟨some 132, .none, true, 4, .pick (.tmp 127) (.tmp 131) (.const (.bool false))⟩,
      ⟨some 133, .none, true, 4, .move (.tmp 132)⟩,
      ⟨some 134, .some 133 true, true, 4, .move (.tmp 13)⟩,
      ⟨some 135, .some 133 true, true, 4, .move (.tmp 15)⟩,
      ⟨some 136, .some 133 true, true, 4, .binOp .eql 4 (.tmp 134) (.tmp 135) 4⟩,
      ⟨some 137, .none, true, 4, .pick (.tmp 133) (.tmp 136) (.const (.bool false))⟩,
      ⟨some 138, .none, true, 4, .move (.tmp 137)⟩,
      ⟨some 139, .some 138 true, true, 0, .fieldAddr 25 (.tmp 12) 0⟩,
      ⟨some 140, .some 138 true, true, 22, .load 22 (.tmp 139)⟩,
      ⟨some 141, .some 138 true, true, 22, .move (.tmp 14)⟩,
      ⟨some 142, .some 138 true, true, 4, .call { callee := .value (.func 17), args := #[.tmp 140, .tmp 141], argTypes := #[22, 22] }⟩,
      ⟨some 143, .none, true, 4, .pick (.tmp 138) (.tmp 142) (.const (.bool false))⟩,
      ⟨some 144, .none, true, 4, .move (.tmp 143)⟩,
      ⟨some 145, .some 144 true, true, 4, .move (.tmp 17)⟩,
      ⟨some 146, .some 144 true, true, 4, .move (.tmp 19)⟩,
      ⟨some 147, .some 144 true, true, 4, .binOp .eql 4 (.tmp 145) (.tmp 146) 4⟩,
      ⟨some 148, .none, true, 4, .pick (.tmp 144) (.tmp 147) (.const (.bool false))⟩,
      ⟨some 149, .none, true, 4, .move (.tmp 148)⟩,
      ⟨some 150, .some 149 true, true, 0, .fieldAddr 25 (.tmp 16) 0⟩,
      ⟨some 151, .some 149 true, true, 22, .load 22 (.tmp 150)⟩,
      ⟨some 152, .some 149 true, true, 22, .move (.tmp 18)⟩,
      ⟨some 153, .some 149 true, true, 4, .call { callee := .value (.func 17), args := #[.tmp 151, .tmp 152], argTypes := #[22, 22] }⟩,
      ⟨some 154, .none, true, 4, .pick (.tmp 149) (.tmp 153) (.const (.bool false))⟩,
      ⟨some 155, .none, true, 4, .move (.tmp 154)⟩,
      ⟨some 156, .some 155 true, true, 4, .move (.tmp 21)⟩,
      ⟨some 157, .some 155 true, true, 4, .move (.tmp 23)⟩,
      ⟨some 158, .some 155 true, true, 4, .binOp .eql 4 (.tmp 156) (.tmp 157) 4⟩,
      ⟨some 159, .none, true, 4, .pick (.tmp 155) (.tmp 158) (.const (.bool false))⟩,
      ⟨some 160, .none, true, 4, .move (.tmp 159)⟩,
      ⟨some 161, .some 160 true, true, 0, .fieldAddr 25 (.tmp 20) 0⟩,
      ⟨some 162, .some 160 true, true, 22, .load 22 (.tmp 161)⟩,
      ⟨some 163, .some 160 true, true, 22, .move (.tmp 22)⟩,
      ⟨some 164, .some 160 true, true, 4, .call { callee := .value (.func 17), args := #[.tmp 162, .tmp 163], argTypes := #[22, 22] }⟩,
      ⟨some 165, .none, true, 4, .pick (.tmp 160) (.tmp 164) (.const (.bool false))⟩,
      ⟨some 6, .none, true, 4, .assign (.tmp 165)⟩])
  .ret)))))))))))))))))))))))
theorem t_reevelaw10_ForestSays : FnT Try.prog f_reevelaw10_ForestSays rc_reevelaw10_ForestSays [.tmp 6] 3 := ⟨⟨[], Try.f7, _, Try.func7, rfl, by kernel_rfl, by kernel_rfl, by kernel_rfl, rfl, by decide⟩, by kernel_rfl⟩
/-- reeve/reevelaw10.awake -/
abbrev f_reevelaw10_awake : FuncId := 8
def rc_reevelaw10_awake : RCode :=
  (.seq
    (.region [⟨some 0, .none, true, 4, .assign (.const (.bool false))⟩])
  (.keep []
  (.seq
    (.region [⟨some 1, .none, true, 22, .buildSlice 22 3 #[(0, .const (.int .i64 (-1))), (1, .const (.int .i64 0)), (2, .const (.int .i64 1))]⟩,
      ⟨some 2, .none, true, 25, .call { callee := .value (.func 9), args := #[.tmp 1], argTypes := #[22] }⟩,
      ⟨some 3, .none, true, 22, .call { callee := .value (.func 13), args := #[.tmp 2, .const (.int .i64 0)], argTypes := #[25, 3] }⟩,
      ⟨some 4, .none, true, 22, .buildSlice 22 2 #[(0, .const (.int .i64 1)), (1, .const (.int .i64 2))]⟩,
      ⟨some 5, .none, true, 4, .call { callee := .value (.func 17), args := #[.tmp 3, .tmp 4], argTypes := #[22, 22] }⟩,
      ⟨some 6, .none, true, 4, .move (.tmp 5)⟩,
      ⟨some 7, .some 6 true, true, 22, .buildSlice 22 3 #[(0, .const (.int .i64 (-1))), (1, .const (.int .i64 0)), (2, .const (.int .i64 1))]⟩,
      ⟨some 8, .some 6 true, true, 25, .call { callee := .value (.func 9), args := #[.tmp 7], argTypes := #[22] }⟩,
      ⟨some 9, .some 6 true, true, 3, .call { callee := .value (.func 11), args := #[.tmp 8, .const (.int .i64 2)], argTypes := #[25, 3] }⟩,
      ⟨some 10, .some 6 true, true, 4, .binOp .eql 3 (.tmp 9) (.const (.int .i64 2)) 3⟩,
      ⟨some 11, .none, true, 4, .pick (.tmp 6) (.tmp 10) (.const (.bool false))⟩,
      ⟨some 12, .none, true, 4, .move (.tmp 11)⟩,
      ⟨some 13, .some 12 true, true, 22, .buildSlice 22 3 #[(0, .const (.int .i64 (-1))), (1, .const (.int .i64 0)), (2, .const (.int .i64 1))]⟩,
      ⟨some 14, .some 12 true, true, 25, .call { callee := .value (.func 9), args := #[.tmp 13], argTypes := #[22] }⟩,
      ⟨some 15, .some 12 true, true, 4, .call { callee := .value (.func 10), args := #[.tmp 14], argTypes := #[25] }⟩,
      ⟨some 16, .none, true, 4, .pick (.tmp 12) (.tmp 15) (.const (.bool false))⟩,
      ⟨some 0, .none, true, 4, .assign (.tmp 16)⟩])
  .ret)))
theorem t_reevelaw10_awake : FnT Try.prog f_reevelaw10_awake rc_reevelaw10_awake [.tmp 0] 0 := ⟨⟨[], Try.f8, _, Try.func8, rfl, by kernel_rfl, by kernel_rfl, by kernel_rfl, rfl, by decide⟩, by kernel_rfl⟩
/-- reeve/reevelaw10.up -/
abbrev f_reevelaw10_up : FuncId := 9
def rc_reevelaw10_up : RCode :=
  (.seq
    (.region [⟨some 2, .none, true, 0, .alloc 25⟩])
  (.keep [0, 2]
  (.seq
    (.region [⟨some 3, .none, true, 22, .move (.tmp 0)⟩,
      ⟨some 4, .none, true, 25, .build 25 #[(0, .tmp 3)]⟩,
      ⟨none, .none, true, 0, .store 25 (.tmp 2) (.tmp 4)⟩])
  .ret)))
theorem t_reevelaw10_up : FnT Try.prog f_reevelaw10_up rc_reevelaw10_up [.cell 2 25] 1 := ⟨⟨[], Try.f9, _, Try.func9, rfl, by kernel_rfl, by kernel_rfl, by kernel_rfl, rfl, by decide⟩, by kernel_rfl⟩
/-- reeve/forest.Good -/
abbrev f_forest_Good : FuncId := 10
def rc_forest_Goodl0 : RCode :=
  (.seq
    (.region [⟨some 16, .none, true, 0, .binOp .lss 3 (.tmp 15) (.tmp 14) 3⟩])
  (.keep [1, 13, 14, 15, 16]
  (.seq
    (.cond (.tmp 16)
      .skip
      (.exit 0))
  (.keep [1, 13, 14, 15]
  (.seq
    (.block 1
      (.seq
        (.region [⟨some 17, .none, true, 0, .indexAddr 22 (.tmp 13) (.tmp 15)⟩,
          ⟨some 18, .none, true, 3, .load 3 (.tmp 17)⟩,
          ⟨some 4, .none, true, 3, .assign (.tmp 18)⟩])
      (.keep [1, 4, 13, 14, 15]
      (.seq
        (.region [⟨some 19, .none, true, 3, .move (.tmp 4)⟩,
          ⟨some 20, .none, true, 4, .binOp .neq 3 (.tmp 19) (.const (.int .i64 (-2))) 3⟩,
          ⟨some 21, .none, true, 4, .move (.tmp 20)⟩,
          ⟨some 22, .some 21 true, true, 3, .move (.tmp 4)⟩,
          ⟨some 23, .some 21 true, true, 4, .binOp .neq 3 (.tmp 22) (.const (.int .i64 (-1))) 3⟩,
          ⟨some 24, .none, true, 4, .pick (.tmp 21) (.tmp 23) (.const (.bool false))⟩,
          ⟨some 25, .none, true, 4, .move (.tmp 24)⟩,
          ⟨some 26, .some 25 true, true, 25, .load 25 (.tmp 1)⟩,
          ⟨some 27, .some 25 true, true, 3, .move (.tmp 4)⟩,
          ⟨some 28, .some 25 true, true, 4, .call { callee := .value (.func 29), args := #[.tmp 26, .tmp 27], argTypes := #[25, 3] }⟩,
          ⟨some 29, .some 25 true, true, 4, .unOp .not 4 (.tmp 28)⟩,
          ⟨some 30, .none, true, 4, .pick (.tmp 25) (.tmp 29) (.const (.bool false))⟩])
      (.keep [1, 13, 14, 15, 30]
      (.cond (.tmp 30)
        (.seq
          (.region [⟨some 2, .none, true, 4, .assign (.const (.bool false))⟩])
        .ret)
        .skip))))))
  (.keep [1, 13, 14, 15]
  (.region [⟨some 31, .none, true, 3, .binOp .add 3 (.tmp 15) (.const (.int .i64 1)) 3⟩,
    ⟨some 15, .none, true, 3, .move (.tmp 31)⟩])))))))
def rc_forest_Goodl1 : RCode :=
  (.seq
    (.seq
      (.region [⟨some 39, .none, true, 25, .load 25 (.tmp 1)⟩,
        ⟨some 40, .none, true, 3, .move (.tmp 7)⟩,
        ⟨some 41, .none, true, 4, .call { callee := .value (.func 29), args := #[.tmp 39, .tmp 40], argTypes := #[25, 3] }⟩])
    (.keep [1, 6, 7, 34, 35, 41]
    (.cond (.tmp 41)
      .skip
      (.exit 4))))
  (.seq
    (.block 5
      (.seq
        (.seq
          (.region [⟨some 47, .none, true, 3, .move (.tmp 6)⟩,
            ⟨some 48, .none, true, 0, .fieldAddr 25 (.tmp 1) 0⟩,
            ⟨some 49, .none, true, 22, .load 22 (.tmp 48)⟩,
            ⟨some 50, .none, true, 3, .call { callee := .builtin .len, args := #[.tmp 49], argTypes := #[22] }⟩,
            ⟨some 51, .none, true, 4, .binOp .gtr 3 (.tmp 47) (.tmp 50) 3⟩])
        (.keep [1, 6, 7, 34, 35, 51]
        (.cond (.tmp 51)
          (.seq
            (.region [⟨some 2, .none, true, 4, .assign (.const (.bool false))⟩])
          .ret)
          .skip)))
      (.region [⟨some 52, .none, true, 3, .move (.tmp 6)⟩,
        ⟨some 53, .none, true, 3, .binOp .add 3 (.tmp 52) (.const (.int .i64 1)) 3⟩,
        ⟨some 6, .none, true, 3, .assign (.tmp 53)⟩])))
  (.keep [1, 6, 7, 34, 35]
  (.region [⟨some 42, .none, true, 0, .fieldAddr 25 (.tmp 1) 0⟩,
    ⟨some 43, .none, true, 22, .load 22 (.tmp 42)⟩,
    ⟨some 44, .none, true, 3, .move (.tmp 7)⟩,
    ⟨some 45, .none, true, 0, .indexAddr 22 (.tmp 43) (.tmp 44)⟩,
    ⟨some 46, .none, true, 3, .load 3 (.tmp 45)⟩,
    ⟨some 7, .none, true, 3, .assign (.tmp 46)⟩]))))
def rc_forest_Goodl2 : RCode :=
  (.seq
    (.region [⟨some 36, .none, true, 0, .binOp .lss 3 (.tmp 35) (.tmp 34) 3⟩])
  (.keep [1, 34, 35, 36]
  (.seq
    (.cond (.tmp 36)
      .skip
      (.exit 2))
  (.keep [1, 34, 35]
  (.seq
    (.block 3
      (.seq
        (.region [⟨some 37, .none, true, 3, .move (.tmp 35)⟩,
          ⟨some 5, .none, true, 3, .assign (.tmp 37)⟩])
      (.keep [1, 5, 34, 35]
      (.seq
        (.region [⟨some 6, .none, true, 3, .assign (.const (.int .i64 0))⟩])
      (.keep [1, 5, 6, 34, 35]
      (.seq
        (.region [⟨some 38, .none, true, 3, .move (.tmp 5)⟩,
          ⟨some 7, .none, true, 3, .assign (.tmp 38)⟩])
      (.keep [1, 6, 7, 34, 35]
      (.block 4
        (.loop [1, 6, 7, 34, 35] rc_forest_Goodl1)))))))))
  (.keep [1, 34, 35]
  (.region [⟨some 54, .none, true, 3, .binOp .add 3 (.tmp 35) (.const (.int .i64 1)) 3⟩,
    ⟨some 35, .none, true, 3, .move (.tmp 54)⟩])))))))
def rc_forest_Good : RCode :=
  (.seq
    (.region [⟨some 1, .none, true, 0, .box 25 (.tmp 0)⟩,
      ⟨some 2, .none, true, 4, .assign (.const (.bool false))⟩])
  (.keep [1]
  (.seq
    (.seq
      (.region [⟨some 8, .none, true, 0, .fieldAddr 25 (.tmp 1) 0⟩,
        ⟨some 9, .none, true, 22, .load 22 (.tmp 8)⟩,
        ⟨some 10, .none, true, 3, .call { callee := .builtin .len, args := #[.tmp 9], argTypes := #[22] }⟩,
        ⟨some 11, .none, true, 4, .binOp .gtr 3 (.tmp 10) (.const (.int .i64 96)) 3⟩])
    (.keep [1, 11]
    (.cond (.tmp 11)
      (.seq
        (.region [⟨some 2, .none, true, 4, .assign (.const (.bool false))⟩])
      .ret)
      .skip)))
  (.seq
    (.seq
      (.region [⟨some 12, .none, true, 0, .fieldAddr 25 (.tmp 1) 0⟩,
        ⟨some 13, .none, true, 22, .load 22 (.tmp 12)⟩,
        ⟨some 14, .none, true, 3, .call { callee := .builtin .len, args := #[.tmp 13], argTypes := #[22] }⟩,
        ⟨some 15, .none, true, 3, .move (.const (.int .i64 0))⟩])
    (.keep [1, 13, 14, 15]
    (.block 0
      (.loop [1, 13, 14, 15] rc_forest_Goodl0))))
  (.seq
    (.seq
      (.region [⟨some 32, .none, true, 0, .fieldAddr 25 (.tmp 1) 0⟩,
        ⟨some 33, .none, true, 22, .load 22 (.tmp 32)⟩,
        ⟨some 34, .none, true, 3, .call { callee := .builtin .len, args := #[.tmp 33], argTypes := #[22] }⟩,
        ⟨some 35, .none, true, 3, .move (.const (.int .i64 0))⟩])
    (.keep [1, 34, 35]
    (.block 2
      (.loop [1, 34, 35] rc_forest_Goodl2))))
  (.seq
    (.region [⟨some 2, .none, true, 4, .assign (.const (.bool true))⟩])
  .ret))))))
theorem t_forest_Good : FnT Try.prog f_forest_Good rc_forest_Good [.tmp 2] 1 := ⟨⟨[], Try.f10, _, Try.func10, rfl, by kernel_rfl, by kernel_rfl, by kernel_rfl, rfl, by decide⟩, by kernel_rfl⟩
/-- reeve/forest.Depth -/
abbrev f_forest_Depth : FuncId := 11
def rc_forest_Depthl0 : RCode :=
  (.seq
    (.seq
      (.region [⟨some 16, .none, true, 3, .move (.tmp 6)⟩,
        ⟨some 17, .none, true, 4, .binOp .neq 3 (.tmp 16) (.const (.int .i64 (-1))) 3⟩])
    (.keep [2, 5, 6, 17]
    (.cond (.tmp 17)
      .skip
      (.exit 0))))
  (.seq
    (.block 1
      (.region [⟨some 23, .none, true, 3, .move (.tmp 5)⟩,
        ⟨some 24, .none, true, 3, .binOp .add 3 (.tmp 23) (.const (.int .i64 1)) 3⟩,
        ⟨some 5, .none, true, 3, .assign (.tmp 24)⟩]))
  (.keep [2, 5, 6]
  (.region [⟨some 18, .none, true, 0, .fieldAddr 25 (.tmp 2) 0⟩,
    ⟨some 19, .none, true, 22, .load 22 (.tmp 18)⟩,
    ⟨some 20, .none, true, 3, .move (.tmp 6)⟩,
    ⟨some 21, .none, true, 0, .indexAddr 22 (.tmp 19) (.tmp 20)⟩,
    ⟨some 22, .none, true, 3, .load 3 (.tmp 21)⟩,
    ⟨some 6, .none, true, 3, .assign (.tmp 22)⟩]))))
def rc_forest_Depth : RCode :=
  (.seq
    (.region [⟨some 2, .none, true, 0, .box 25 (.tmp 0)⟩,
      ⟨some 4, .none, true, 3, .assign (.const (.int .i64 0))⟩])
  (.keep [1, 2]
  (.seq
    (.seq
      (.region [⟨some 7, .none, true, 25, .load 25 (.tmp 2)⟩,
        ⟨some 8, .none, true, 3, .move (.tmp 1)⟩,
        ⟨some 9, .none, true, 4, .call { callee := .value (.func 30), args := #[.tmp 7, .tmp 8], argTypes := #[25, 3] }⟩,
        ⟨some 10, .none, true, 4, .unOp .not 4 (.tmp 9)⟩])
    (.keep [1, 2, 10]
    (.cond (.tmp 10)
      (.seq
        (.region [⟨some 4, .none, true, 3, .assign (.const (.int .i64 (-1)))⟩])
      .ret)
      .skip)))
  (.seq
    (.region [⟨some 5, .none, true, 3, .assign (.const (.int .i64 0))⟩])
  (.keep [1, 2, 5]
  (.seq
    (.seq
      (.region [⟨some 11, .none, true, 0, .fieldAddr 25 (.tmp 2) 0⟩,
        ⟨some 12, .none, true, 22, .load 22 (.tmp 11)⟩,
        ⟨some 13, .none, true, 3, .move (.tmp 1)⟩,
        ⟨some 14, .none, true, 0, .indexAddr 22 (.tmp 12) (.tmp 13)⟩,
        ⟨some 15, .none, true, 3, .load 3 (.tmp 14)⟩,
        ⟨some 6, .none, true, 3, .assign (.tmp 15)⟩])
    (.keep [2, 5, 6]
    (.block 0
      (.loop [2, 5, 6] rc_forest_Depthl0))))
  (.seq
    (.region [⟨some 25, .none, true, 3, .move (.tmp 5)⟩,
      ⟨some 4, .none, true, 3, .assign (.tmp 25)⟩])
  .ret)))))))
theorem t_forest_Depth : FnT Try.prog f_forest_Depth rc_forest_Depth [.tmp 4] 2 := ⟨⟨[], Try.f11, _, Try.func11, rfl, by kernel_rfl, by kernel_rfl, by kernel_rfl, rfl, by decide⟩, by kernel_rfl⟩
/-- reeve/forest.Kids -/
abbrev f_forest_Kids : FuncId := 12
def rc_forest_Kids : RCode :=
  (.seq
    (.region [⟨some 2, .none, true, 0, .box 25 (.tmp 0)⟩,
      ⟨some 4, .none, true, 22, .assign (.const (.slice none 0 0))⟩])
  (.keep [1, 2]
  (.seq
    (.seq
      (.region [⟨some 5, .none, true, 25, .load 25 (.tmp 2)⟩,
        ⟨some 6, .none, true, 3, .move (.tmp 1)⟩,
        ⟨some 7, .none, true, 4, .call { callee := .value (.func 30), args := #[.tmp 5, .tmp 6], argTypes := #[25, 3] }⟩,
        ⟨some 8, .none, true, 4, .unOp .not 4 (.tmp 7)⟩])
    (.keep [1, 2, 8]
    (.cond (.tmp 8)
      (.seq
        (.region [⟨some 4, .none, true, 22, .assign (.const (.slice none 0 0))⟩])
      .ret)
      .skip)))
  (.seq
    (.region [⟨some 9, .none, true, 25, .load 25 (.tmp 2)⟩,
      ⟨some 10, .none, true, 3, .move (.tmp 1)⟩,
      ⟨some 11, .none, true, 22, .call { callee := .value (.func 31), args := #[.tmp 9, .tmp 10], argTypes := #[25, 3] }⟩,
      ⟨some 4, .none, true, 22, .assign (.tmp 11)⟩])
  .ret))))
theorem t_forest_Kids : FnT Try.prog f_forest_Kids rc_forest_Kids [.tmp 4] 2 := ⟨⟨[], Try.f12, _, Try.func12, rfl, by kernel_rfl, by kernel_rfl, by kernel_rfl, rfl, by decide⟩, by kernel_rfl⟩
/-- reeve/forest.Below -/
abbrev f_forest_Below : FuncId := 13
def rc_forest_Below : RCode :=
  (.seq
    (.region [⟨some 2, .none, true, 0, .box 25 (.tmp 0)⟩,
      ⟨some 4, .none, true, 22, .assign (.const (.slice none 0 0))⟩])
  (.keep [1, 2]
  (.seq
    (.seq
      (.region [⟨some 6, .none, true, 25, .load 25 (.tmp 2)⟩,
        ⟨some 7, .none, true, 3, .move (.tmp 1)⟩,
        ⟨some 8, .none, true, 4, .call { callee := .value (.func 30), args := #[.tmp 6, .tmp 7], argTypes := #[25, 3] }⟩,
        ⟨some 9, .none, true, 4, .unOp .not 4 (.tmp 8)⟩])
    (.keep [1, 2, 9]
    (.cond (.tmp 9)
      (.seq
        (.region [⟨some 4, .none, true, 22, .assign (.const (.slice none 0 0))⟩])
      .ret)
      .skip)))
  (.seq
    (.regionD [⟨some 10, .none, 25, .load 25 (.tmp 2), 0, []⟩,
      ⟨some 11, .none, 25, .load 25 (.tmp 2), 1, []⟩,
      ⟨some 12, .none, 3, .move (.tmp 1), 2, []⟩,
      ⟨some 13, .none, 22, .call { callee := .value (.func 31), args := #[.tmp 11, .tmp 12], argTypes := #[25, 3] }, 3, [0]⟩,
      ⟨some 14, .none, 22, .call { callee := .value (.func 32), args := #[.tmp 10, .tmp 13], argTypes := #[25, 22] }, 4, []⟩,
      ⟨some 5, .none, 22, .assign (.tmp 14), 5, []⟩])
  (.keep [5]
  (.seq
    (.region [⟨some 15, .none, true, 22, .move (.tmp 5)⟩,
      ⟨some 16, .none, true, 0, .call { callee := .value (.func 33), args := #[.tmp 15], argTypes := #[22] }⟩])
  (.keep [5]
  (.seq
    (.region [⟨some 17, .none, true, 22, .move (.tmp 5)⟩,
      ⟨some 4, .none, true, 22, .assign (.tmp 17)⟩])
  .ret))))))))
theorem t_forest_Below : FnT Try.prog f_forest_Below rc_forest_Below [.tmp 4] 2 := ⟨⟨[3], Try.f13, _, Try.func13, rfl, by kernel_rfl, by kernel_rfl, by kernel_rfl, rfl, by decide⟩, by kernel_rfl⟩
/-- reeve/forest.Prune -/
abbrev f_forest_Prune : FuncId := 14
def rc_forest_Prunel0 : RCode :=
  (.seq
    (.region [⟨some 22, .none, true, 0, .binOp .lss 3 (.tmp 21) (.tmp 20) 3⟩])
  (.keep [2, 4, 19, 20, 21, 22]
  (.seq
    (.cond (.tmp 22)
      .skip
      (.exit 0))
  (.keep [2, 4, 19, 20, 21]
  (.seq
    (.block 1
      (.seq
        (.region [⟨some 23, .none, true, 0, .indexAddr 22 (.tmp 19) (.tmp 21)⟩,
          ⟨some 24, .none, true, 3, .load 3 (.tmp 23)⟩,
          ⟨some 8, .none, true, 3, .assign (.tmp 24)⟩])
      (.keep [2, 4, 8, 19, 20, 21]
      (.region [⟨some 25, .none, true, 0, .fieldAddr 25 (.tmp 2) 0⟩,
        ⟨some 26, .none, true, 22, .load 22 (.tmp 25)⟩,
        ⟨some 27, .none, true, 3, .move (.tmp 8)⟩,
        ⟨some 28, .none, true, 0, .indexAddr 22 (.tmp 26) (.tmp 27)⟩,
        ⟨none, .none, true, 0, .store 3 (.tmp 28) (.const (.int .i64 (-2)))⟩]))))
  (.keep [2, 4, 19, 20, 21]
  (.region [⟨some 29, .none, true, 3, .binOp .add 3 (.tmp 21) (.const (.int .i64 1)) 3⟩,
    ⟨some 21, .none, true, 3, .move (.tmp 29)⟩])))))))
def rc_forest_Prune : RCode :=
  (.seq
    (.region [⟨some 2, .none, true, 0, .box 25 (.tmp 0)⟩,
      ⟨some 4, .none, true, 0, .alloc 25⟩,
      ⟨some 5, .none, true, 4, .assign (.const (.bool false))⟩])
  (.keep [1, 2, 4]
  (.seq
    (.seq
      (.region [⟨some 9, .none, true, 25, .load 25 (.tmp 2)⟩,
        ⟨some 10, .none, true, 3, .move (.tmp 1)⟩,
        ⟨some 11, .none, true, 4, .call { callee := .value (.func 30), args := #[.tmp 9, .tmp 10], argTypes := #[25, 3] }⟩,
        ⟨some 12, .none, true, 4, .unOp .not 4 (.tmp 11)⟩])
    (.keep [1, 2, 4, 12]
    (.cond (.tmp 12)
      (.seq
        (.region [⟨some 13, .none, true, 25, .build 25 #[]⟩,
          ⟨none, .none, true, 0, .store 25 (.tmp 4) (.tmp 13)⟩,
          ⟨some 5, .none, true, 4, .assign (.const (.bool false))⟩])
      .ret)
      .skip)))
  (.seq
    (.region [⟨some 14, .none, true, 25, .load 25 (.tmp 2)⟩,
      ⟨some 15, .none, true, 3, .move (.tmp 1)⟩,
      ⟨some 16, .none, true, 22, .call { callee := .value (.func 13), args := #[.tmp 14, .tmp 15], argTypes := #[25, 3] }⟩,
      ⟨some 6, .none, true, 22, .assign (.tmp 16)⟩])
  (.keep [2, 4, 6]
  (.seq
    (.region [⟨some 17, .none, true, 25, .load 25 (.tmp 2)⟩,
      ⟨some 18, .none, true, 25, .call { callee := .value (.func 34), args := #[.tmp 17], argTypes := #[25] }⟩,
      ⟨none, .none, true, 0, .store 25 (.tmp 2) (.tmp 18)⟩])
  (.keep [2, 4, 6]
  (.seq
    (.seq
      (.region [⟨some 19, .none, true, 22, .move (.tmp 6)⟩,
        ⟨some 20, .none, true, 3, .call { callee := .builtin .len, args := #[.tmp 19], argTypes := #[22] }⟩,
        ⟨some 21, .none, true, 3, .move (.const (.int .i64 0))⟩])
    (.keep [2, 4, 19, 20, 21]
    (.block 0
      (.loop [2, 4, 19, 20, 21] rc_forest_Prunel0))))
  (.seq
    (.region [⟨some 30, .none, true, 25, .load 25 (.tmp 2)⟩,
      ⟨none, .none, true, 0, .store 25 (.tmp 4) (.tmp 30)⟩,
      ⟨some 5, .none, true, 4, .assign (.const (.bool true))⟩])
  .ret)))))))))
theorem t_forest_Prune : FnT Try.prog f_forest_Prune rc_forest_Prune [.cell 4 25, .tmp 5] 2 := ⟨⟨[], Try.f14, _, Try.func14, rfl, by kernel_rfl, by kernel_rfl, by kernel_rfl, rfl, by decide⟩, by kernel_rfl⟩
/-- reeve/forest.Drop -/
abbrev f_forest_Drop : FuncId := 15
def rc_forest_Dropl0 : RCode :=
  (.seq
    (.region [⟨some 20, .none, true, 0, .binOp .lss 3 (.tmp 19) (.tmp 18) 3⟩])
  (.keep [1, 2, 4, 17, 18, 19, 20]
  (.seq
    (.cond (.tmp 20)
      .skip
      (.exit 0))
  (.keep [1, 2, 4, 17, 18, 19]
  (.seq
    (.block 1
      (.seq
        (.region [⟨some 21, .none, true, 0, .indexAddr 22 (.tmp 17) (.tmp 19)⟩,
          ⟨some 22, .none, true, 3, .load 3 (.tmp 21)⟩,
          ⟨some 7, .none, true, 3, .assign (.tmp 22)⟩])
      (.keep [1, 2, 4, 7, 17, 18, 19]
      (.region [⟨some 23, .none, false, 0, .fieldAddr 25 (.tmp 2) 0⟩,
        ⟨some 24, .none, false, 22, .load 22 (.tmp 23)⟩,
        ⟨some 25, .none, false, 3, .move (.tmp 7)⟩,
        ⟨some 26, .none, false, 0, .fieldAddr 25 (.tmp 2) 0⟩,
        ⟨some 27, .none, false, 22, .load 22 (.tmp 26)⟩,
        ⟨some 28, .none, false, 3, .move (.tmp 1)⟩,
        ⟨some 29, .none, false, 0, .indexAddr 22 (.tmp 27) (.tmp 28)⟩,
        ⟨some 30, .none, false, 3, .load 3 (.tmp 29)⟩,
        ⟨some 31, .none, true, 0, .indexAddr 22 (.tmp 24) (.tmp 25)⟩,
        ⟨none, .none, true, 0, .store 3 (.tmp 31) (.tmp 30)⟩]))))
  (.keep [1, 2, 4, 17, 18, 19]
  (.region [⟨some 32, .none, true, 3, .binOp .add 3 (.tmp 19) (.const (.int .i64 1)) 3⟩,
    ⟨some 19, .none, true, 3, .move (.tmp 32)⟩])))))))
def rc_forest_Drop : RCode :=
  (.seq
    (.region [⟨some 2, .none, true, 0, .box 25 (.tmp 0)⟩,
      ⟨some 4, .none, true, 0, .alloc 25⟩,
      ⟨some 5, .none, true, 4, .assign (.const (.bool false))⟩])
  (.keep [1, 2, 4]
  (.seq
    (.seq
      (.region [⟨some 8, .none, true, 25, .load 25 (.tmp 2)⟩,
        ⟨some 9, .none, true, 3, .move (.tmp 1)⟩,
        ⟨some 10, .none, true, 4, .call { callee := .value (.func 30), args := #[.tmp 8, .tmp 9], argTypes := #[25, 3] }⟩,
        ⟨some 11, .none, true, 4, .unOp .not 4 (.tmp 10)⟩])
    (.keep [1, 2, 4, 11]
    (.cond (.tmp 11)
      (.seq
        (.region [⟨some 12, .none, true, 25, .build 25 #[]⟩,
          ⟨none, .none, true, 0, .store 25 (.tmp 4) (.tmp 12)⟩,
          ⟨some 5, .none, true, 4, .assign (.const (.bool false))⟩])
      .ret)
      .skip)))
  (.seq
    (.region [⟨some 13, .none, true, 25, .load 25 (.tmp 2)⟩,
      ⟨some 14, .none, true, 25, .call { callee := .value (.func 34), args := #[.tmp 13], argTypes := #[25] }⟩,
      ⟨none, .none, true, 0, .store 25 (.tmp 2) (.tmp 14)⟩])
  (.keep [1, 2, 4]
  (.seq
    (.seq
      (.region [⟨some 15, .none, true, 25, .load 25 (.tmp 2)⟩,
        ⟨some 16, .none, true, 3, .move (.tmp 1)⟩,
        ⟨some 17, .none, true, 22, .call { callee := .value (.func 31), args := #[.tmp 15, .tmp 16], argTypes := #[25, 3] }⟩,
        ⟨some 18, .none, true, 3, .call { callee := .builtin .len, args := #[.tmp 17], argTypes := #[22] }⟩,
        ⟨some 19, .none, true, 3, .move (.const (.int .i64 0))⟩])
    (.keep [1, 2, 4, 17, 18, 19]
    (.block 0
      (.loop [1, 2, 4, 17, 18, 19] rc_forest_Dropl0))))
  (.seq
    (.region [⟨some 33, .none, true, 0, .fieldAddr 25 (.tmp 2) 0⟩,
      ⟨some 34, .none, true, 22, .load 22 (.tmp 33)⟩,
      ⟨some 35, .none, true, 3, .move (.tmp 1)⟩,
      ⟨some 36, .none, true, 0, .indexAddr 22 (.tmp 34) (.tmp 35)⟩,
      ⟨none, .none, true, 0, .store 3 (.tmp 36) (.const (.int .i64 (-2)))⟩])
  (.keep [2, 4]
  (.seq
    (.region [⟨some 37, .none, true, 25, .load 25 (.tmp 2)⟩,
      ⟨none, .none, true, 0, .store 25 (.tmp 4) (.tmp 37)⟩,
      ⟨some 5, .none, true, 4, .assign (.const (.bool true))⟩])
  .ret)))))))))
theorem t_forest_Drop : FnT Try.prog f_forest_Drop rc_forest_Drop [.cell 4 25, .tmp 5] 2 := ⟨⟨[], Try.f15, _, Try.func15, rfl, by kernel_rfl, by kernel_rfl, by kernel_rfl, rfl, by decide⟩, by kernel_rfl⟩
/-- reeve/forest.Add -/
abbrev f_forest_Add : FuncId := 16
def rc_forest_Add : RCode :=
  (.seq
    (.region [⟨some 3, .none, true, 0, .box 25 (.tmp 0)⟩,
      ⟨some 6, .none, true, 0, .alloc 25⟩,
      ⟨some 7, .none, true, 4, .assign (.const (.bool false))⟩])
  (.keep [1, 2, 3, 6]
  (.seq
    (.seq
      (.region [⟨some 8, .none, true, 25, .load 25 (.tmp 3)⟩,
        ⟨some 9, .none, true, 4, .call { callee := .value (.func 10), args := #[.tmp 8], argTypes := #[25] }⟩,
        ⟨some 10, .none, true, 4, .unOp .not 4 (.tmp 9)⟩,
        ⟨some 11, .none, true, 4, .move (.tmp 10)⟩,
        ⟨some 12, .some 11 false, true, 3, .move (.tmp 1)⟩,
        ⟨some 13, .some 11 false, true, 4, .binOp .lss 3 (.tmp 12) (.const (.int .i64 0)) 3⟩,
        ⟨some 14, .none, true, 4, .pick (.tmp 11) (.const (.bool true)) (.tmp 13)⟩,
        ⟨some 15, .none, true, 4, .move (.tmp 14)⟩,
        ⟨some 16, .some 15 false, true, 3, .move (.tmp 1)⟩,
        ⟨some 17, .some 15 false, true, 0, .fieldAddr 25 (.tmp 3) 0⟩,
        ⟨some 18, .some 15 false, true, 22, .load 22 (.tmp 17)⟩,
        ⟨some 19, .some 15 false, true, 3, .call { callee := .builtin .len, args := #[.tmp 18], argTypes := #[22] }⟩,
        ⟨some 20, .some 15 false, true, 4, .binOp .geq 3 (.tmp 16) (.tmp 19) 3⟩,
        ⟨some 21, .none, true, 4, .pick (.tmp 15) (.const (.bool true)) (.tmp 20)⟩,
        ⟨some 22, .none, true, 4, .move (.tmp 21)⟩,
        ⟨some 23, .some 22 false, true, 25, .load 25 (.tmp 3)⟩,
        ⟨some 24, .some 22 false, true, 3, .move (.tmp 1)⟩,
        ⟨some 25, .some 22 false, true, 4, .call { callee := .value (.func 29), args := #[.tmp 23, .tmp 24], argTypes := #[25, 3] }⟩,
        ⟨some 26, .none, true, 4, .pick (.tmp 22) (.const (.bool true)) (.tmp 25)⟩,
        ⟨some 27, .none, true, 4, .move (.tmp 26)⟩,
        ⟨some 28, .some 27 false, true, 3, .move (.tmp 2)⟩,
        ⟨some 29, .some 27 false, true, 4, .binOp .neq 3 (.tmp 28) (.const (.int .i64 (-1))) 3⟩,
        ⟨some 30, .some 27 false, true, 4, .move (.tmp 29)⟩,
        ⟨some 31, .some 30 true, true, 25, .load 25 (.tmp 3)⟩,
        ⟨some 32, .some 30 true, true, 3, .move (.tmp 2)⟩,
        ⟨some 33, .some 30 true, true, 4, .call { callee := .value (.func 29), args := #[.tmp 31, .tmp 32], argTypes := #[25, 3] }⟩,
        ⟨some 34, .some 30 true, true, 4, .unOp .not 4 (.tmp 33)⟩,
        ⟨some 35, .some 27 false, true, 4, .pick (.tmp 30) (.tmp 34) (.const (.bool false))⟩,
        ⟨some 36, .none, true, 4, .pick (.tmp 27) (.const (.bool true)) (.tmp 35)⟩])
    (.keep [1, 2, 3, 6, 36]
    (.cond (.tmp 36)
      (.seq
        (.region [⟨some 37, .none, true, 25, .build 25 #[]⟩,
          ⟨none, .none, true, 0, .store 25 (.tmp 6) (.tmp 37)⟩,
          ⟨some 7, .none, true, 4, .assign (.const (.bool false))⟩])
      .ret)
      .skip)))
  (.seq
    (.region [⟨some 38, .none, true, 25, .load 25 (.tmp 3)⟩,
      ⟨some 39, .none, true, 25, .call { callee := .value (.func 34), args := #[.tmp 38], argTypes := #[25] }⟩,
      ⟨none, .none, true, 0, .store 25 (.tmp 3) (.tmp 39)⟩])
  (.keep [1, 2, 3, 6]
  (.seq
    (.region [⟨some 40, .none, true, 0, .fieldAddr 25 (.tmp 3) 0⟩,
      ⟨some 41, .none, true, 22, .load 22 (.tmp 40)⟩,
      ⟨some 42, .none, true, 3, .move (.tmp 1)⟩,
      ⟨some 43, .none, true, 3, .move (.tmp 2)⟩,
      ⟨some 44, .none, true, 0, .indexAddr 22 (.tmp 41) (.tmp 42)⟩,
      ⟨none, .none, true, 0, .store 3 (.tmp 44) (.tmp 43)⟩])
  (.keep [3, 6]
  (.seq
    (.region [⟨some 45, .none, true, 25, .load 25 (.tmp 3)⟩,
      ⟨none, .none, true, 0, .store 25 (.tmp 6) (.tmp 45)⟩,
      ⟨some 7, .none, true, 4, .assign (.const (.bool true))⟩])
  .ret))))))))
theorem t_forest_Add : FnT Try.prog f_forest_Add rc_forest_Add [.cell 6 25, .tmp 7] 3 := ⟨⟨[], Try.f16, _, Try.func16, rfl, by kernel_rfl, by kernel_rfl, by kernel_rfl, rfl, by decide⟩, by kernel_rfl⟩
/-- reeve/reevelaw10.ints -/
abbrev f_reevelaw10_ints : FuncId := 17
def rc_reevelaw10_intsl0 : RCode :=
  (.seq
    (.seq
      (.region [⟨some 11, .none, true, 3, .move (.tmp 5)⟩,
        ⟨some 12, .none, true, 22, .move (.tmp 0)⟩,
        ⟨some 13, .none, true, 3, .call { callee := .builtin .len, args := #[.tmp 12], argTypes := #[22] }⟩,
        ⟨some 14, .none, true, 4, .binOp .lss 3 (.tmp 11) (.tmp 13) 3⟩])
    (.keep [0, 1, 5, 14]
    (.cond (.tmp 14)
      .skip
      (.exit 0))))
  (.seq
    (.block 1
      (.seq
        (.region [⟨some 17, .none, false, 22, .move (.tmp 0)⟩,
          ⟨some 18, .none, false, 3, .move (.tmp 5)⟩,
          ⟨some 19, .none, false, 0, .indexAddr 22 (.tmp 17) (.tmp 18)⟩,
          ⟨some 20, .none, false, 3, .load 3 (.tmp 19)⟩,
          ⟨some 21, .none, false, 22, .move (.tmp 1)⟩,
          ⟨some 22, .none, false, 3, .move (.tmp 5)⟩,
          ⟨some 23, .none, false, 0, .indexAddr 22 (.tmp 21) (.tmp 22)⟩,
          ⟨some 24, .none, false, 3, .load 3 (.tmp 23)⟩,
          ⟨some 25, .none, true, 4, .binOp .neq 3 (.tmp 20) (.tmp 24) 3⟩])
      (.keep [0, 1, 5, 25]
      (.cond (.tmp 25)
        (.seq
          (.region [⟨some 4, .none, true, 4, .assign (.const (.bool false))⟩])
        .ret)
        .skip))))
  (.keep [0, 1, 5]
  (.region [⟨some 15, .none, true, 3, .move (.tmp 5)⟩,
    ⟨some 16, .none, true, 3, .binOp .add 3 (.tmp 15) (.const (.int .i64 1)) 3⟩,
    ⟨some 5, .none, true, 3, .assign (.tmp 16)⟩]))))
def rc_reevelaw10_ints : RCode :=
  (.seq
    (.region [⟨some 4, .none, true, 4, .assign (.const (.bool false))⟩])
  (.keep [0, 1]
  (.seq
    (.seq
      (.region [⟨some 6, .none, true, 22, .move (.tmp 0)⟩,
        ⟨some 7, .none, true, 3, .call { callee := .builtin .len, args := #[.tmp 6], argTypes := #[22] }⟩,
        ⟨some 8, .none, true, 22, .move (.tmp 1)⟩,
        ⟨some 9, .none, true, 3, .call { callee := .builtin .len, args := #[.tmp 8], argTypes := #[22] }⟩,
        ⟨some 10, .none, true, 4, .binOp .neq 3 (.tmp 7) (.tmp 9) 3⟩])
    (.keep [0, 1, 10]
    (.cond (.tmp 10)
      (.seq
        (.region [⟨some 4, .none, true, 4, .assign (.const (.bool false))⟩])
      .ret)
      .skip)))
  (.seq
    (.seq
      (.region [⟨some 5, .none, true, 3, .assign (.const (.int .i64 0))⟩])
    (.keep [0, 1, 5]
    (.block 0
      (.loop [0, 1, 5] rc_reevelaw10_intsl0))))
  (.seq
    (.region [⟨some 4, .none, true, 4, .assign (.const (.bool true))⟩])
  .ret)))))
theorem t_reevelaw10_ints : FnT Try.prog f_reevelaw10_ints rc_reevelaw10_ints [.tmp 4] 2 := ⟨⟨[], Try.f17, _, Try.func17, rfl, by kernel_rfl, by kernel_rfl, by kernel_rfl, rfl, by decide⟩, by kernel_rfl⟩
/-- reeve/forest.Move -/
abbrev f_forest_Move : FuncId := 18
def rc_forest_Movel0 : RCode :=
  (.seq
    (.region [⟨some 38, .none, true, 0, .binOp .lss 3 (.tmp 37) (.tmp 36) 3⟩])
  (.keep [1, 2, 3, 6, 35, 36, 37, 38]
  (.seq
    (.cond (.tmp 38)
      .skip
      (.exit 0))
  (.keep [1, 2, 3, 6, 35, 36, 37]
  (.seq
    (.block 1
      (.seq
        (.region [⟨some 39, .none, true, 0, .indexAddr 22 (.tmp 35) (.tmp 37)⟩,
          ⟨some 40, .none, true, 3, .load 3 (.tmp 39)⟩,
          ⟨some 9, .none, true, 3, .assign (.tmp 40)⟩])
      (.keep [1, 2, 3, 6, 9, 35, 36, 37]
      (.region [⟨some 41, .none, true, 0, .fieldAddr 25 (.tmp 3) 0⟩,
        ⟨some 42, .none, true, 22, .load 22 (.tmp 41)⟩,
        ⟨some 43, .none, true, 3, .move (.tmp 9)⟩,
        ⟨some 44, .none, true, 3, .move (.tmp 2)⟩,
        ⟨some 45, .none, true, 0, .indexAddr 22 (.tmp 42) (.tmp 43)⟩,
        ⟨none, .none, true, 0, .store 3 (.tmp 45) (.tmp 44)⟩]))))
  (.keep [1, 2, 3, 6, 35, 36, 37]
  (.region [⟨some 46, .none, true, 3, .binOp .add 3 (.tmp 37) (.const (.int .i64 1)) 3⟩,
    ⟨some 37, .none, true, 3, .move (.tmp 46)⟩])))))))
def rc_forest_Move : RCode :=
  (.seq
    (.region [⟨some 3, .none, true, 0, .box 25 (.tmp 0)⟩,
      ⟨some 6, .none, true, 0, .alloc 25⟩,
      ⟨some 7, .none, true, 4, .assign (.const (.bool false))⟩])
  (.keep [1, 2, 3, 6]
  (.seq
    (.seq
      (.region [⟨some 10, .none, true, 25, .load 25 (.tmp 3)⟩,
        ⟨some 11, .none, true, 3, .move (.tmp 1)⟩,
        ⟨some 12, .none, true, 4, .call { callee := .value (.func 30), args := #[.tmp 10, .tmp 11], argTypes := #[25, 3] }⟩,
        ⟨some 13, .none, true, 4, .unOp .not 4 (.tmp 12)⟩,
        ⟨some 14, .none, true, 4, .move (.tmp 13)⟩,
        ⟨some 15, .some 14 false, true, 3, .move (.tmp 2)⟩,
        ⟨some 16, .some 14 false, true, 4, .binOp .lss 3 (.tmp 15) (.const (.int .i64 0)) 3⟩,
        ⟨some 17, .none, true, 4, .pick (.tmp 14) (.const (.bool true)) (.tmp 16)⟩,
        ⟨some 18, .none, true, 4, .move (.tmp 17)⟩,
        ⟨some 19, .some 18 false, true, 3, .move (.tmp 2)⟩,
        ⟨some 20, .some 18 false, true, 0, .fieldAddr 25 (.tmp 3) 0⟩,
        ⟨some 21, .some 18 false, true, 22, .load 22 (.tmp 20)⟩,
        ⟨some 22, .some 18 false, true, 3, .call { callee := .builtin .len, args := #[.tmp 21], argTypes := #[22] }⟩,
        ⟨some 23, .some 18 false, true, 4, .binOp .geq 3 (.tmp 19) (.tmp 22) 3⟩,
        ⟨some 24, .none, true, 4, .pick (.tmp 18) (.const (.bool true)) (.tmp 23)⟩,
        ⟨some 25, .none, true, 4, .move (.tmp 24)⟩,
        ⟨some 26, .some 25 false, true, 25, .load 25 (.tmp 3)⟩,
        ⟨some 27, .some 25 false, true, 3, .move (.tmp 2)⟩,
        ⟨some 28, .some 25 false, true, 4, .call { callee := .value (.func 29), args := #[.tmp 26, .tmp 27], argTypes := #[25, 3] }⟩,
        ⟨some 29, .none, true, 4, .pick (.tmp 25) (.const (.bool true)) (.tmp 28)⟩])
    (.keep [1, 2, 3, 6, 29]
    (.cond (.tmp 29)
      (.seq
        (.region [⟨some 30, .none, true, 25, .build 25 #[]⟩,
          ⟨none, .none, true, 0, .store 25 (.tmp 6) (.tmp 30)⟩,
          ⟨some 7, .none, true, 4, .assign (.const (.bool false))⟩])
      .ret)
      .skip)))
  (.seq
    (.region [⟨some 31, .none, true, 25, .load 25 (.tmp 3)⟩,
      ⟨some 32, .none, true, 25, .call { callee := .value (.func 34), args := #[.tmp 31], argTypes := #[25] }⟩,
      ⟨none, .none, true, 0, .store 25 (.tmp 3) (.tmp 32)⟩])
  (.keep [1, 2, 3, 6]
  (.seq
    (.seq
      (.region [⟨some 33, .none, true, 25, .load 25 (.tmp 3)⟩,
        ⟨some 34, .none, true, 3, .move (.tmp 1)⟩,
        ⟨some 35, .none, true, 22, .call { callee := .value (.func 31), args := #[.tmp 33, .tmp 34], argTypes := #[25, 3] }⟩,
        ⟨some 36, .none, true, 3, .call { callee := .builtin .len, args := #[.tmp 35], argTypes := #[22] }⟩,
        ⟨some 37, .none, true, 3, .move (.const (.int .i64 0))⟩])
    (.keep [1, 2, 3, 6, 35, 36, 37]
    (.block 0
      (.loop [1, 2, 3, 6, 35, 36, 37] rc_forest_Movel0))))
  (.seq
    (.region [⟨some 47, .none, false, 0, .fieldAddr 25 (.tmp 3) 0⟩,
      ⟨some 48, .none, false, 22, .load 22 (.tmp 47)⟩,
      ⟨some 49, .none, false, 3, .move (.tmp 2)⟩,
      ⟨some 50, .none, false, 0, .fieldAddr 25 (.tmp 3) 0⟩,
      ⟨some 51, .none, false, 22, .load 22 (.tmp 50)⟩,
      ⟨some 52, .none, false, 3, .move (.tmp 1)⟩,
      ⟨some 53, .none, false, 0, .indexAddr 22 (.tmp 51) (.tmp 52)⟩,
      ⟨some 54, .none, false, 3, .load 3 (.tmp 53)⟩,
      ⟨some 55, .none, true, 0, .indexAddr 22 (.tmp 48) (.tmp 49)⟩,
      ⟨none, .none, true, 0, .store 3 (.tmp 55) (.tmp 54)⟩])
  (.keep [1, 3, 6]
  (.seq
    (.region [⟨some 56, .none, true, 0, .fieldAddr 25 (.tmp 3) 0⟩,
      ⟨some 57, .none, true, 22, .load 22 (.tmp 56)⟩,
      ⟨some 58, .none, true, 3, .move (.tmp 1)⟩,
      ⟨some 59, .none, true, 0, .indexAddr 22 (.tmp 57) (.tmp 58)⟩,
      ⟨none, .none, true, 0, .store 3 (.tmp 59) (.const (.int .i64 (-2)))⟩])
  (.keep [3, 6]
  (.seq
    (.region [⟨some 60, .none, true, 25, .load 25 (.tmp 3)⟩,
      ⟨none, .none, true, 0, .store 25 (.tmp 6) (.tmp 60)⟩,
      ⟨some 7, .none, true, 4, .assign (.const (.bool true))⟩])
  .ret)))))))))))
theorem t_forest_Move : FnT Try.prog f_forest_Move rc_forest_Move [.cell 6 25, .tmp 7] 3 := ⟨⟨[], Try.f18, _, Try.func18, rfl, by kernel_rfl, by kernel_rfl, by kernel_rfl, rfl, by decide⟩, by kernel_rfl⟩
/-- reeve/forest.Order -/
abbrev f_forest_Order : FuncId := 19
def rc_forest_Order : RCode :=
  (.seq
    (.region [⟨some 1, .none, true, 0, .box 25 (.tmp 0)⟩,
      ⟨some 2, .none, true, 22, .assign (.const (.slice none 0 0))⟩])
  (.keep [1]
  (.seq
    (.seq
      (.region [⟨some 3, .none, true, 25, .load 25 (.tmp 1)⟩,
        ⟨some 4, .none, true, 4, .call { callee := .value (.func 10), args := #[.tmp 3], argTypes := #[25] }⟩,
        ⟨some 5, .none, true, 4, .unOp .not 4 (.tmp 4)⟩])
    (.keep [1, 5]
    (.cond (.tmp 5)
      (.seq
        (.region [⟨some 2, .none, true, 22, .assign (.const (.slice none 0 0))⟩])
      .ret)
      .skip)))
  (.seq
    (.regionD [⟨some 6, .none, 25, .load 25 (.tmp 1), 0, []⟩,
      ⟨some 7, .none, 25, .load 25 (.tmp 1), 1, []⟩,
      ⟨some 8, .none, 22, .call { callee := .value (.func 31), args := #[.tmp 7, .const (.int .i64 (-1))], argTypes := #[25, 3] }, 2, [0]⟩,
      ⟨some 9, .none, 22, .call { callee := .value (.func 32), args := #[.tmp 6, .tmp 8], argTypes := #[25, 22] }, 3, []⟩,
      ⟨some 2, .none, 22, .assign (.tmp 9), 4, []⟩])
  .ret))))
theorem t_forest_Order : FnT Try.prog f_forest_Order rc_forest_Order [.tmp 2] 1 := ⟨⟨[3], Try.f19, _, Try.func19, rfl, by kernel_rfl, by kernel_rfl, by kernel_rfl, rfl, by decide⟩, by kernel_rfl⟩
/-- reeve/reeveref7.Add -/
abbrev f_reeveref7_Add : FuncId := 20
def rc_reeveref7_Add : RCode :=
  (.seq
    (.region [⟨some 6, .none, true, 22, .assign (.const (.slice none 0 0))⟩,
      ⟨some 7, .none, true, 4, .assign (.const (.bool false))⟩])
  (.keep [0, 1, 2]
  (.seq
    (.seq
      (.region [⟨some 9, .none, true, 22, .move (.tmp 0)⟩,
        ⟨some 10, .none, true, 4, .call { callee := .value (.func 24), args := #[.tmp 9], argTypes := #[22] }⟩,
        ⟨some 11, .none, true, 4, .unOp .not 4 (.tmp 10)⟩,
        ⟨some 12, .none, true, 4, .move (.tmp 11)⟩,
        ⟨some 13, .some 12 false, true, 3, .move (.tmp 1)⟩,
        ⟨some 14, .some 12 false, true, 4, .binOp .lss 3 (.tmp 13) (.const (.int .i64 0)) 3⟩,
        ⟨some 15, .none, true, 4, .pick (.tmp 12) (.const (.bool true)) (.tmp 14)⟩,
        ⟨some 16, .none, true, 4, .move (.tmp 15)⟩,
        ⟨some 17, .some 16 false, true, 3, .move (.tmp 1)⟩,
        ⟨some 18, .some 16 false, true, 22, .move (.tmp 0)⟩,
        ⟨some 19, .some 16 false, true, 3, .call { callee := .builtin .len, args := #[.tmp 18], argTypes := #[22] }⟩,
        ⟨some 20, .some 16 false, true, 4, .binOp .geq 3 (.tmp 17) (.tmp 19) 3⟩,
        ⟨some 21, .none, true, 4, .pick (.tmp 16) (.const (.bool true)) (.tmp 20)⟩,
        ⟨some 22, .none, true, 4, .move (.tmp 21)⟩,
        ⟨some 23, .some 22 false, true, 22, .move (.tmp 0)⟩,
        ⟨some 24, .some 22 false, true, 3, .move (.tmp 1)⟩,
        ⟨some 25, .some 22 false, true, 0, .indexAddr 22 (.tmp 23) (.tmp 24)⟩,
        ⟨some 26, .some 22 false, true, 3, .load 3 (.tmp 25)⟩,
        ⟨some 27, .some 22 false, true, 4, .binOp .neq 3 (.tmp 26) (.const (.int .i64 (-2))) 3⟩,
        ⟨some 28, .none, true, 4, .pick (.tmp 22) (.const (.bool true)) (.tmp 27)⟩,
        ⟨some 29, .none, true, 4, .move (.tmp 28)⟩,
        ⟨some 30, .some 29 false, true, 3, .move (.tmp 2)⟩,
        ⟨some 31, .some 29 false, true, 4, .binOp .neq 3 (.tmp 30) (.const (.int .i64 (-1))) 3⟩,
        ⟨some 32, .some 29 false, true, 4, .move (.tmp 31)⟩,
        ⟨some 33, .some 32 true, true, 22, .move (.tmp 0)⟩,
        ⟨some 34, .some 32 true, true, 3, .move (.tmp 2)⟩,
        ⟨some 35, .some 32 true, true, 4, .call { callee := .value (.func 35), args := #[.tmp 33, .tmp 34], argTypes := #[22, 3] }⟩,
        ⟨some 36, .some 32 true, true, 4, .unOp .not 4 (.tmp 35)⟩,
        ⟨some 37, .some 29 false, true, 4, .pick (.tmp 32) (.tmp 36) (.const (.bool false))⟩,
        ⟨some 38, .none, true, 4, .pick (.tmp 29) (.const (.bool true)) (.tmp 37)⟩])
    (.keep [0, 1, 2, 38]
    (.cond (.tmp 38)
      (.seq
        (.region [⟨some 6, .none, true, 22, .assign (.const (.slice none 0 0))⟩,
          ⟨some 7, .none, true, 4, .assign (.const (.bool false))⟩])
      .ret)
      .skip)))
  (.seq
    (.region [⟨some 39, .none, true, 22, .buildSlice 22 0 #[]⟩,
      ⟨some 40, .none, true, 22, .move (.tmp 0)⟩,
      ⟨some 41, .none, true, 22, .call { callee := .builtin .append, args := #[.tmp 39, .tmp 40], argTypes := #[22, 22] }⟩,
      ⟨some 8, .none, true, 22, .assign (.tmp 41)⟩])
  (.keep [1, 2, 8]
  (.seq
    (.region [⟨some 42, .none, true, 22, .move (.tmp 8)⟩,
      ⟨some 43, .none, true, 3, .move (.tmp 1)⟩,
      ⟨some 44, .none, true, 3, .move (.tmp 2)⟩,
      ⟨some 45, .none, true, 0, .indexAddr 22 (.tmp 42) (.tmp 43)⟩,
      ⟨none, .none, true, 0, .store 3 (.tmp 45) (.tmp 44)⟩])
  (.keep [8]
  (.seq
    (.region [⟨some 46, .none, true, 22, .move (.tmp 8)⟩,
      ⟨some 6, .none, true, 22, .assign (.tmp 46)⟩,
      ⟨some 7, .none, true, 4, .assign (.const (.bool true))⟩])
  .ret))))))))
theorem t_reeveref7_Add : FnT Try.prog f_reeveref7_Add rc_reeveref7_Add [.tmp 6, .tmp 7] 3 := ⟨⟨[], Try.f20, _, Try.func20, rfl, by kernel_rfl, by kernel_rfl, by kernel_rfl, rfl, by decide⟩, by kernel_rfl⟩
/-- reeve/reeveref7.Drop -/
abbrev f_reeveref7_Drop : FuncId := 21
def rc_reeveref7_Dropl0 : RCode :=
  (.seq
    (.seq
      (.region [⟨some 15, .none, true, 3, .move (.tmp 7)⟩,
        ⟨some 16, .none, true, 22, .move (.tmp 6)⟩,
        ⟨some 17, .none, true, 3, .call { callee := .builtin .len, args := #[.tmp 16], argTypes := #[22] }⟩,
        ⟨some 18, .none, true, 4, .binOp .lss 3 (.tmp 15) (.tmp 17) 3⟩])
    (.keep [0, 1, 6, 7, 18]
    (.cond (.tmp 18)
      .skip
      (.exit 0))))
  (.seq
    (.block 1
      (.seq
        (.region [⟨some 21, .none, true, 22, .move (.tmp 6)⟩,
          ⟨some 22, .none, true, 3, .move (.tmp 7)⟩,
          ⟨some 23, .none, true, 0, .indexAddr 22 (.tmp 21) (.tmp 22)⟩,
          ⟨some 24, .none, true, 3, .load 3 (.tmp 23)⟩,
          ⟨some 25, .none, true, 3, .move (.tmp 1)⟩,
          ⟨some 26, .none, true, 4, .binOp .eql 3 (.tmp 24) (.tmp 25) 3⟩])
      (.keep [0, 1, 6, 7, 26]
      (.cond (.tmp 26)
        (.region [⟨some 27, .none, true, 22, .move (.tmp 6)⟩,
          ⟨some 28, .none, true, 3, .move (.tmp 7)⟩,
          ⟨some 29, .none, true, 22, .move (.tmp 0)⟩,
          ⟨some 30, .none, true, 3, .move (.tmp 1)⟩,
          ⟨some 31, .none, true, 0, .indexAddr 22 (.tmp 29) (.tmp 30)⟩,
          ⟨some 32, .none, true, 3, .load 3 (.tmp 31)⟩,
          ⟨some 33, .none, true, 0, .indexAddr 22 (.tmp 27) (.tmp 28)⟩,
          ⟨none, .none, true, 0, .store 3 (.tmp 33) (.tmp 32)⟩])
        .skip))))
  (.keep [0, 1, 6, 7]
  (.region [⟨some 19, .none, true, 3, .move (.tmp 7)⟩,
    ⟨some 20, .none, true, 3, .binOp .add 3 (.tmp 19) (.const (.int .i64 1)) 3⟩,
    ⟨some 7, .none, true, 3, .assign (.tmp 20)⟩]))))
def rc_reeveref7_Drop : RCode :=
  (.seq
    (.region [⟨some 4, .none, true, 22, .assign (.const (.slice none 0 0))⟩,
      ⟨some 5, .none, true, 4, .assign (.const (.bool false))⟩])
  (.keep [0, 1]
  (.seq
    (.seq
      (.region [⟨some 8, .none, true, 22, .move (.tmp 0)⟩,
        ⟨some 9, .none, true, 3, .move (.tmp 1)⟩,
        ⟨some 10, .none, true, 4, .call { callee := .value (.func 35), args := #[.tmp 8, .tmp 9], argTypes := #[22, 3] }⟩,
        ⟨some 11, .none, true, 4, .unOp .not 4 (.tmp 10)⟩])
    (.keep [0, 1, 11]
    (.cond (.tmp 11)
      (.seq
        (.region [⟨some 4, .none, true, 22, .assign (.const (.slice none 0 0))⟩,
          ⟨some 5, .none, true, 4, .assign (.const (.bool false))⟩])
      .ret)
      .skip)))
  (.seq
    (.region [⟨some 12, .none, true, 22, .buildSlice 22 0 #[]⟩,
      ⟨some 13, .none, true, 22, .move (.tmp 0)⟩,
      ⟨some 14, .none, true, 22, .call { callee := .builtin .append, args := #[.tmp 12, .tmp 13], argTypes := #[22, 22] }⟩,
      ⟨some 6, .none, true, 22, .assign (.tmp 14)⟩])
  (.keep [0, 1, 6]
  (.seq
    (.seq
      (.region [⟨some 7, .none, true, 3, .assign (.const (.int .i64 0))⟩])
    (.keep [0, 1, 6, 7]
    (.block 0
      (.loop [0, 1, 6, 7] rc_reeveref7_Dropl0))))
  (.seq
    (.region [⟨some 34, .none, true, 22, .move (.tmp 6)⟩,
      ⟨some 35, .none, true, 3, .move (.tmp 1)⟩,
      ⟨some 36, .none, true, 0, .indexAddr 22 (.tmp 34) (.tmp 35)⟩,
      ⟨none, .none, true, 0, .store 3 (.tmp 36) (.const (.int .i64 (-2)))⟩])
  (.keep [6]
  (.seq
    (.region [⟨some 37, .none, true, 22, .move (.tmp 6)⟩,
      ⟨some 4, .none, true, 22, .assign (.tmp 37)⟩,
      ⟨some 5, .none, true, 4, .assign (.const (.bool true))⟩])
  .ret)))))))))
theorem t_reeveref7_Drop : FnT Try.prog f_reeveref7_Drop rc_reeveref7_Drop [.tmp 4, .tmp 5] 2 := ⟨⟨[], Try.f21, _, Try.func21, rfl, by kernel_rfl, by kernel_rfl, by kernel_rfl, rfl, by decide⟩, by kernel_rfl⟩
/-- reeve/reeveref7.Move -/
abbrev f_reeveref7_Move : FuncId := 22
def rc_reeveref7_Movel0 : RCode :=
  (.seq
    (.seq
      (.region [⟨some 34, .none, true, 3, .move (.tmp 9)⟩,
        ⟨some 35, .none, true, 22, .move (.tmp 8)⟩,
        ⟨some 36, .none, true, 3, .call { callee := .builtin .len, args := #[.tmp 35], argTypes := #[22] }⟩,
        ⟨some 37, .none, true, 4, .binOp .lss 3 (.tmp 34) (.tmp 36) 3⟩])
    (.keep [0, 1, 2, 8, 9, 37]
    (.cond (.tmp 37)
      .skip
      (.exit 0))))
  (.seq
    (.block 1
      (.seq
        (.region [⟨some 40, .none, true, 22, .move (.tmp 8)⟩,
          ⟨some 41, .none, true, 3, .move (.tmp 9)⟩,
          ⟨some 42, .none, true, 0, .indexAddr 22 (.tmp 40) (.tmp 41)⟩,
          ⟨some 43, .none, true, 3, .load 3 (.tmp 42)⟩,
          ⟨some 44, .none, true, 3, .move (.tmp 1)⟩,
          ⟨some 45, .none, true, 4, .binOp .eql 3 (.tmp 43) (.tmp 44) 3⟩])
      (.keep [0, 1, 2, 8, 9, 45]
      (.cond (.tmp 45)
        (.region [⟨some 46, .none, true, 22, .move (.tmp 8)⟩,
          ⟨some 47, .none, true, 3, .move (.tmp 9)⟩,
          ⟨some 48, .none, true, 3, .move (.tmp 2)⟩,
          ⟨some 49, .none, true, 0, .indexAddr 22 (.tmp 46) (.tmp 47)⟩,
          ⟨none, .none, true, 0, .store 3 (.tmp 49) (.tmp 48)⟩])
        .skip))))
  (.keep [0, 1, 2, 8, 9]
  (.region [⟨some 38, .none, true, 3, .move (.tmp 9)⟩,
    ⟨some 39, .none, true, 3, .binOp .add 3 (.tmp 38) (.const (.int .i64 1)) 3⟩,
    ⟨some 9, .none, true, 3, .assign (.tmp 39)⟩]))))
def rc_reeveref7_Move : RCode :=
  (.seq
    (.region [⟨some 6, .none, true, 22, .assign (.const (.slice none 0 0))⟩,
      ⟨some 7, .none, true, 4, .assign (.const (.bool false))⟩])
  (.keep [0, 1, 2]
  (.seq
    (.seq
      (.region [⟨some 10, .none, true, 22, .move (.tmp 0)⟩,
        ⟨some 11, .none, true, 3, .move (.tmp 1)⟩,
        ⟨some 12, .none, true, 4, .call { callee := .value (.func 35), args := #[.tmp 10, .tmp 11], argTypes := #[22, 3] }⟩,
        ⟨some 13, .none, true, 4, .unOp .not 4 (.tmp 12)⟩,
        ⟨some 14, .none, true, 4, .move (.tmp 13)⟩,
        ⟨some 15, .some 14 false, true, 3, .move (.tmp 2)⟩,
        ⟨some 16, .some 14 false, true, 4, .binOp .lss 3 (.tmp 15) (.const (.int .i64 0)) 3⟩,
        ⟨some 17, .none, true, 4, .pick (.tmp 14) (.const (.bool true)) (.tmp 16)⟩,
        ⟨some 18, .none, true, 4, .move (.tmp 17)⟩,
        ⟨some 19, .some 18 false, true, 3, .move (.tmp 2)⟩,
        ⟨some 20, .some 18 false, true, 22, .move (.tmp 0)⟩,
        ⟨some 21, .some 18 false, true, 3, .call { callee := .builtin .len, args := #[.tmp 20], argTypes := #[22] }⟩,
        ⟨some 22, .some 18 false, true, 4, .binOp .geq 3 (.tmp 19) (.tmp 21) 3⟩,
        ⟨some 23, .none, true, 4, .pick (.tmp 18) (.const (.bool true)) (.tmp 22)⟩,
        ⟨some 24, .none, true, 4, .move (.tmp 23)⟩,
        ⟨some 25, .some 24 false, true, 22, .move (.tmp 0)⟩,
        ⟨some 26, .some 24 false, true, 3, .move (.tmp 2)⟩,
        ⟨some 27, .some 24 false, true, 0, .indexAddr 22 (.tmp 25) (.tmp 26)⟩,
        ⟨some 28, .some 24 false, true, 3, .load 3 (.tmp 27)⟩,
        ⟨some 29, .some 24 false, true, 4, .binOp .neq 3 (.tmp 28) (.const (.int .i64 (-2))) 3⟩,
        ⟨some 30, .none, true, 4, .pick (.tmp 24) (.const (.bool true)) (.tmp 29)⟩])
    (.keep [0, 1, 2, 30]
    (.cond (.tmp 30)
      (.seq
        (.region [⟨some 6, .none, true, 22, .assign (.const (.slice none 0 0))⟩,
          ⟨some 7, .none, true, 4, .assign (.const (.bool false))⟩])
      .ret)
      .skip)))
  (.seq
    (.region [⟨some 31, .none, true, 22, .buildSlice 22 0 #[]⟩,
      ⟨some 32, .none, true, 22, .move (.tmp 0)⟩,
      ⟨some 33, .none, true, 22, .call { callee := .builtin .append, args := #[.tmp 31, .tmp 32], argTypes := #[22, 22] }⟩,
      ⟨some 8, .none, true, 22, .assign (.tmp 33)⟩])
  (.keep [0, 1, 2, 8]
  (.seq
    (.seq
      (.region [⟨some 9, .none, true, 3, .assign (.const (.int .i64 0))⟩])
    (.keep [0, 1, 2, 8, 9]
    (.block 0
      (.loop [0, 1, 2, 8, 9] rc_reeveref7_Movel0))))
  (.seq
    (.region [⟨some 50, .none, true, 22, .move (.tmp 8)⟩,
      ⟨some 51, .none, true, 3, .move (.tmp 2)⟩,
      ⟨some 52, .none, true, 22, .move (.tmp 8)⟩,
      ⟨some 53, .none, true, 3, .move (.tmp 1)⟩,
      ⟨some 54, .none, true, 22, .move (.tmp 0)⟩,
      ⟨some 55, .none, true, 3, .move (.tmp 1)⟩,
      ⟨some 56, .none, true, 0, .indexAddr 22 (.tmp 54) (.tmp 55)⟩,
      ⟨some 57, .none, true, 3, .load 3 (.tmp 56)⟩,
      ⟨some 58, .none, true, 0, .indexAddr 22 (.tmp 50) (.tmp 51)⟩,
      ⟨none, .none, true, 0, .store 3 (.tmp 58) (.tmp 57)⟩,
      ⟨some 59, .none, true, 0, .indexAddr 22 (.tmp 52) (.tmp 53)⟩,
      ⟨none, .none, true, 0, .store 3 (.tmp 59) (.const (.int .i64 (-2)))⟩])
  (.keep [8]
  (.seq
    (.region [⟨some 60, .none, true, 22, .move (.tmp 8)⟩,
      ⟨some 6, .none, true, 22, .assign (.tmp 60)⟩,
      ⟨some 7, .none, true, 4, .assign (.const (.bool true))⟩])
  .ret)))))))))
theorem t_reeveref7_Move : FnT Try.prog f_reeveref7_Move rc_reeveref7_Move [.tmp 6, .tmp 7] 3 := ⟨⟨[], Try.f22, _, Try.func22, rfl, by kernel_rfl, by kernel_rfl, by kernel_rfl, rfl, by decide⟩, by kernel_rfl⟩
/-- reeve/reeveref7.Prune -/
abbrev f_reeveref7_Prune : FuncId := 23
def rc_reeveref7_Prunel0 : RCode :=
  (.seq
    (.seq
      (.region [⟨some 19, .none, true, 3, .move (.tmp 8)⟩,
        ⟨some 20, .none, true, 22, .move (.tmp 7)⟩,
        ⟨some 21, .none, true, 3, .call { callee := .builtin .len, args := #[.tmp 20], argTypes := #[22] }⟩,
        ⟨some 22, .none, true, 4, .binOp .lss 3 (.tmp 19) (.tmp 21) 3⟩])
    (.keep [6, 7, 8, 22]
    (.cond (.tmp 22)
      .skip
      (.exit 0))))
  (.seq
    (.block 1
      (.region [⟨some 25, .none, true, 22, .move (.tmp 6)⟩,
        ⟨some 26, .none, true, 22, .move (.tmp 7)⟩,
        ⟨some 27, .none, true, 3, .move (.tmp 8)⟩,
        ⟨some 28, .none, true, 0, .indexAddr 22 (.tmp 26) (.tmp 27)⟩,
        ⟨some 29, .none, true, 3, .load 3 (.tmp 28)⟩,
        ⟨some 30, .none, true, 0, .indexAddr 22 (.tmp 25) (.tmp 29)⟩,
        ⟨none, .none, true, 0, .store 3 (.tmp 30) (.const (.int .i64 (-2)))⟩]))
  (.keep [6, 7, 8]
  (.region [⟨some 23, .none, true, 3, .move (.tmp 8)⟩,
    ⟨some 24, .none, true, 3, .binOp .add 3 (.tmp 23) (.const (.int .i64 1)) 3⟩,
    ⟨some 8, .none, true, 3, .assign (.tmp 24)⟩]))))
def rc_reeveref7_Prune : RCode :=
  (.seq
    (.region [⟨some 4, .none, true, 22, .assign (.const (.slice none 0 0))⟩,
      ⟨some 5, .none, true, 4, .assign (.const (.bool false))⟩])
  (.keep [0, 1]
  (.seq
    (.seq
      (.region [⟨some 9, .none, true, 22, .move (.tmp 0)⟩,
        ⟨some 10, .none, true, 3, .move (.tmp 1)⟩,
        ⟨some 11, .none, true, 4, .call { callee := .value (.func 35), args := #[.tmp 9, .tmp 10], argTypes := #[22, 3] }⟩,
        ⟨some 12, .none, true, 4, .unOp .not 4 (.tmp 11)⟩])
    (.keep [0, 1, 12]
    (.cond (.tmp 12)
      (.seq
        (.region [⟨some 4, .none, true, 22, .assign (.const (.slice none 0 0))⟩,
          ⟨some 5, .none, true, 4, .assign (.const (.bool false))⟩])
      .ret)
      .skip)))
  (.seq
    (.region [⟨some 13, .none, true, 22, .buildSlice 22 0 #[]⟩,
      ⟨some 14, .none, true, 22, .move (.tmp 0)⟩,
      ⟨some 15, .none, true, 22, .call { callee := .builtin .append, args := #[.tmp 13, .tmp 14], argTypes := #[22, 22] }⟩,
      ⟨some 6, .none, true, 22, .assign (.tmp 15)⟩])
  (.keep [0, 1, 6]
  (.seq
    (.region [⟨some 16, .none, true, 22, .move (.tmp 0)⟩,
      ⟨some 17, .none, true, 3, .move (.tmp 1)⟩,
      ⟨some 18, .none, true, 22, .call { callee := .value (.func 27), args := #[.tmp 16, .tmp 17], argTypes := #[22, 3] }⟩,
      ⟨some 7, .none, true, 22, .assign (.tmp 18)⟩])
  (.keep [6, 7]
  (.seq
    (.seq
      (.region [⟨some 8, .none, true, 3, .assign (.const (.int .i64 0))⟩])
    (.keep [6, 7, 8]
    (.block 0
      (.loop [6, 7, 8] rc_reeveref7_Prunel0))))
  (.seq
    (.region [⟨some 31, .none, true, 22, .move (.tmp 6)⟩,
      ⟨some 4, .none, true, 22, .assign (.tmp 31)⟩,
      ⟨some 5, .none, true, 4, .assign (.const (.bool true))⟩])
  .ret)))))))))
theorem t_reeveref7_Prune : FnT Try.prog f_reeveref7_Prune rc_reeveref7_Prune [.tmp 4, .tmp 5] 2 := ⟨⟨[], Try.f23, _, Try.func23, rfl, by kernel_rfl, by kernel_rfl, by kernel_rfl, rfl, by decide⟩, by kernel_rfl⟩
/-- reeve/reeveref7.GoodForest -/
abbrev f_reeveref7_GoodForest : FuncId := 24
def rc_reeveref7_GoodForestl0 : RCode :=
  (.seq
    (.seq
      (.region [⟨some 10, .none, true, 3, .move (.tmp 3)⟩,
        ⟨some 11, .none, true, 22, .move (.tmp 0)⟩,
        ⟨some 12, .none, true, 3, .call { callee := .builtin .len, args := #[.tmp 11], argTypes := #[22] }⟩,
        ⟨some 13, .none, true, 4, .binOp .lss 3 (.tmp 10) (.tmp 12) 3⟩])
    (.keep [0, 3, 13]
    (.cond (.tmp 13)
      .skip
      (.exit 0))))
  (.seq
    (.block 1
      (.seq
        (.region [⟨some 16, .none, true, 22, .move (.tmp 0)⟩,
          ⟨some 17, .none, true, 3, .move (.tmp 3)⟩,
          ⟨some 18, .none, true, 0, .indexAddr 22 (.tmp 16) (.tmp 17)⟩,
          ⟨some 19, .none, true, 3, .load 3 (.tmp 18)⟩,
          ⟨some 20, .none, true, 4, .binOp .lss 3 (.tmp 19) (.const (.int .i64 (-2))) 3⟩,
          ⟨some 21, .none, true, 4, .move (.tmp 20)⟩,
          ⟨some 22, .some 21 false, true, 22, .move (.tmp 0)⟩,
          ⟨some 23, .some 21 false, true, 3, .move (.tmp 3)⟩,
          ⟨some 24, .some 21 false, true, 0, .indexAddr 22 (.tmp 22) (.tmp 23)⟩,
          ⟨some 25, .some 21 false, true, 3, .load 3 (.tmp 24)⟩,
          ⟨some 26, .some 21 false, true, 22, .move (.tmp 0)⟩,
          ⟨some 27, .some 21 false, true, 3, .call { callee := .builtin .len, args := #[.tmp 26], argTypes := #[22] }⟩,
          ⟨some 28, .some 21 false, true, 4, .binOp .geq 3 (.tmp 25) (.tmp 27) 3⟩,
          ⟨some 29, .none, true, 4, .pick (.tmp 21) (.const (.bool true)) (.tmp 28)⟩,
          ⟨some 30, .none, true, 4, .move (.tmp 29)⟩,
          ⟨some 31, .some 30 false, true, 22, .move (.tmp 0)⟩,
          ⟨some 32, .some 30 false, true, 3, .move (.tmp 3)⟩,
          ⟨some 33, .some 30 false, true, 0, .indexAddr 22 (.tmp 31) (.tmp 32)⟩,
          ⟨some 34, .some 30 false, true, 3, .load 3 (.tmp 33)⟩,
          ⟨some 35, .some 30 false, true, 4, .binOp .geq 3 (.tmp 34) (.const (.int .i64 0)) 3⟩,
          ⟨some 36, .some 30 false, true, 4, .move (.tmp 35)⟩,
          ⟨some 37, .some 36 true, true, 22, .move (.tmp 0)⟩,
          ⟨some 38, .some 36 true, true, 22, .move (.tmp 0)⟩,
          ⟨some 39, .some 36 true, true, 3, .move (.tmp 3)⟩,
          ⟨some 40, .some 36 true, true, 0, .indexAddr 22 (.tmp 38) (.tmp 39)⟩,
          ⟨some 41, .some 36 true, true, 3, .load 3 (.tmp 40)⟩,
          ⟨some 42, .some 36 true, true, 0, .indexAddr 22 (.tmp 37) (.tmp 41)⟩,
          ⟨some 43, .some 36 true, true, 3, .load 3 (.tmp 42)⟩,
          ⟨some 44, .some 36 true, true, 4, .binOp .eql 3 (.tmp 43) (.const (.int .i64 (-2))) 3⟩,
          ⟨some 45, .some 30 false, true, 4, .pick (.tmp 36) (.tmp 44) (.const (.bool false))⟩,
          ⟨some 46, .none, true, 4, .pick (.tmp 30) (.const (.bool true)) (.tmp 45)⟩])
      (.keep [0, 3, 46]
      (.cond (.tmp 46)
        (.seq
          (.region [⟨some 2, .none, true, 4, .assign (.const (.bool false))⟩])
        .ret)
        .skip))))
  (.keep [0, 3]
  (.region [⟨some 14, .none, true, 3, .move (.tmp 3)⟩,
    ⟨some 15, .none, true, 3, .binOp .add 3 (.tmp 14) (.const (.int .i64 1)) 3⟩,
    ⟨some 3, .none, true, 3, .assign (.tmp 15)⟩]))))
def rc_reeveref7_GoodForestl1 : RCode :=
  (.seq
    (.seq
      (.region [⟨some 54, .none, true, 3, .move (.tmp 6)⟩,
        ⟨some 55, .none, true, 4, .binOp .geq 3 (.tmp 54) (.const (.int .i64 0)) 3⟩,
        ⟨some 56, .none, true, 4, .move (.tmp 55)⟩,
        ⟨some 57, .some 56 true, true, 3, .move (.tmp 5)⟩,
        ⟨some 58, .some 56 true, true, 22, .move (.tmp 0)⟩,
        ⟨some 59, .some 56 true, true, 3, .call { callee := .builtin .len, args := #[.tmp 58], argTypes := #[22] }⟩,
        ⟨some 60, .some 56 true, true, 4, .binOp .leq 3 (.tmp 57) (.tmp 59) 3⟩,
        ⟨some 61, .none, true, 4, .pick (.tmp 56) (.tmp 60) (.const (.bool false))⟩])
    (.keep [0, 4, 5, 6, 61]
    (.cond (.tmp 61)
      .skip
      (.exit 4))))
  (.seq
    (.block 5
      (.region [⟨some 66, .none, true, 3, .move (.tmp 5)⟩,
        ⟨some 67, .none, true, 3, .binOp .add 3 (.tmp 66) (.const (.int .i64 1)) 3⟩,
        ⟨some 5, .none, true, 3, .assign (.tmp 67)⟩]))
  (.keep [0, 4, 5, 6]
  (.region [⟨some 62, .none, true, 22, .move (.tmp 0)⟩,
    ⟨some 63, .none, true, 3, .move (.tmp 6)⟩,
    ⟨some 64, .none, true, 0, .indexAddr 22 (.tmp 62) (.tmp 63)⟩,
    ⟨some 65, .none, true, 3, .load 3 (.tmp 64)⟩,
    ⟨some 6, .none, true, 3, .assign (.tmp 65)⟩]))))
def rc_reeveref7_GoodForestl2 : RCode :=
  (.seq
    (.seq
      (.region [⟨some 47, .none, true, 3, .move (.tmp 4)⟩,
        ⟨some 48, .none, true, 22, .move (.tmp 0)⟩,
        ⟨some 49, .none, true, 3, .call { callee := .builtin .len, args := #[.tmp 48], argTypes := #[22] }⟩,
        ⟨some 50, .none, true, 4, .binOp .lss 3 (.tmp 47) (.tmp 49) 3⟩])
    (.keep [0, 4, 50]
    (.cond (.tmp 50)
      .skip
      (.exit 2))))
  (.seq
    (.block 3
      (.seq
        (.region [⟨some 5, .none, true, 3, .assign (.const (.int .i64 0))⟩])
      (.keep [0, 4, 5]
      (.seq
        (.seq
          (.region [⟨some 53, .none, true, 3, .move (.tmp 4)⟩,
            ⟨some 6, .none, true, 3, .assign (.tmp 53)⟩])
        (.keep [0, 4, 5, 6]
        (.block 4
          (.loop [0, 4, 5, 6] rc_reeveref7_GoodForestl1))))
      (.seq
        (.region [⟨some 68, .none, true, 3, .move (.tmp 5)⟩,
          ⟨some 69, .none, true, 22, .move (.tmp 0)⟩,
          ⟨some 70, .none, true, 3, .call { callee := .builtin .len, args := #[.tmp 69], argTypes := #[22] }⟩,
          ⟨some 71, .none, true, 4, .binOp .gtr 3 (.tmp 68) (.tmp 70) 3⟩])
      (.keep [0, 4, 71]
      (.cond (.tmp 71)
        (.seq
          (.region [⟨some 2, .none, true, 4, .assign (.const (.bool false))⟩])
        .ret)
        .skip)))))))
  (.keep [0, 4]
  (.region [⟨some 51, .none, true, 3, .move (.tmp 4)⟩,
    ⟨some 52, .none, true, 3, .binOp .add 3 (.tmp 51) (.const (.int .i64 1)) 3⟩,
    ⟨some 4, .none, true, 3, .assign (.tmp 52)⟩]))))
def rc_reeveref7_GoodForest : RCode :=
  (.seq
    (.region [⟨some 2, .none, true, 4, .assign (.const (.bool false))⟩])
  (.keep [0]
  (.seq
    (.seq
      (.region [⟨some 7, .none, true, 22, .move (.tmp 0)⟩,
        ⟨some 8, .none, true, 3, .call { callee := .builtin .len, args := #[.tmp 7], argTypes := #[22] }⟩,
        ⟨some 9, .none, true, 4, .binOp .gtr 3 (.tmp 8) (.const (.int .i64 96)) 3⟩])
    (.keep [0, 9]
    (.cond (.tmp 9)
      (.seq
        (.region [⟨some 2, .none, true, 4, .assign (.const (.bool false))⟩])
      .ret)
      .skip)))
  (.seq
    (.seq
      (.region [⟨some 3, .none, true, 3, .assign (.const (.int .i64 0))⟩])
    (.keep [0, 3]
    (.block 0
      (.loop [0, 3] rc_reeveref7_GoodForestl0))))
  (.seq
    (.seq
      (.region [⟨some 4, .none, true, 3, .assign (.const (.int .i64 0))⟩])
    (.keep [0, 4]
    (.block 2
      (.loop [0, 4] rc_reeveref7_GoodForestl2))))
  (.seq
    (.region [⟨some 2, .none, true, 4, .assign (.const (.bool true))⟩])
  .ret))))))
theorem t_reeveref7_GoodForest : FnT Try.prog f_reeveref7_GoodForest rc_reeveref7_GoodForest [.tmp 2] 1 := ⟨⟨[], Try.f24, _, Try.func24, rfl, by kernel_rfl, by kernel_rfl, by kernel_rfl, rfl, by decide⟩, by kernel_rfl⟩
/-- reeve/reeveref7.Depth -/
abbrev f_reeveref7_Depth : FuncId := 25
def rc_reeveref7_Depthl0 : RCode :=
  (.seq
    (.seq
      (.region [⟨some 15, .none, true, 3, .move (.tmp 6)⟩,
        ⟨some 16, .none, true, 4, .binOp .geq 3 (.tmp 15) (.const (.int .i64 0)) 3⟩])
    (.keep [0, 5, 6, 16]
    (.cond (.tmp 16)
      .skip
      (.exit 0))))
  (.seq
    (.block 1
      (.region [⟨some 21, .none, true, 3, .move (.tmp 5)⟩,
        ⟨some 22, .none, true, 3, .binOp .add 3 (.tmp 21) (.const (.int .i64 1)) 3⟩,
        ⟨some 5, .none, true, 3, .assign (.tmp 22)⟩]))
  (.keep [0, 5, 6]
  (.region [⟨some 17, .none, true, 22, .move (.tmp 0)⟩,
    ⟨some 18, .none, true, 3, .move (.tmp 6)⟩,
    ⟨some 19, .none, true, 0, .indexAddr 22 (.tmp 17) (.tmp 18)⟩,
    ⟨some 20, .none, true, 3, .load 3 (.tmp 19)⟩,
    ⟨some 6, .none, true, 3, .assign (.tmp 20)⟩]))))
def rc_reeveref7_Depth : RCode :=
  (.seq
    (.region [⟨some 4, .none, true, 3, .assign (.const (.int .i64 0))⟩])
  (.keep [0, 1]
  (.seq
    (.seq
      (.region [⟨some 7, .none, true, 22, .move (.tmp 0)⟩,
        ⟨some 8, .none, true, 3, .move (.tmp 1)⟩,
        ⟨some 9, .none, true, 4, .call { callee := .value (.func 35), args := #[.tmp 7, .tmp 8], argTypes := #[22, 3] }⟩,
        ⟨some 10, .none, true, 4, .unOp .not 4 (.tmp 9)⟩])
    (.keep [0, 1, 10]
    (.cond (.tmp 10)
      (.seq
        (.region [⟨some 4, .none, true, 3, .assign (.const (.int .i64 (-1)))⟩])
      .ret)
      .skip)))
  (.seq
    (.region [⟨some 5, .none, true, 3, .assign (.const (.int .i64 0))⟩])
  (.keep [0, 1, 5]
  (.seq
    (.seq
      (.region [⟨some 11, .none, true, 22, .move (.tmp 0)⟩,
        ⟨some 12, .none, true, 3, .move (.tmp 1)⟩,
        ⟨some 13, .none, true, 0, .indexAddr 22 (.tmp 11) (.tmp 12)⟩,
        ⟨some 14, .none, true, 3, .load 3 (.tmp 13)⟩,
        ⟨some 6, .none, true, 3, .assign (.tmp 14)⟩])
    (.keep [0, 5, 6]
    (.block 0
      (.loop [0, 5, 6] rc_reeveref7_Depthl0))))
  (.seq
    (.region [⟨some 23, .none, true, 3, .move (.tmp 5)⟩,
      ⟨some 4, .none, true, 3, .assign (.tmp 23)⟩])
  .ret)))))))
theorem t_reeveref7_Depth : FnT Try.prog f_reeveref7_Depth rc_reeveref7_Depth [.tmp 4] 2 := ⟨⟨[], Try.f25, _, Try.func25, rfl, by kernel_rfl, by kernel_rfl, by kernel_rfl, rfl, by decide⟩, by kernel_rfl⟩
/-- reeve/reeveref7.Kids -/
abbrev f_reeveref7_Kids : FuncId := 26
def rc_reeveref7_Kidsl0 : RCode :=
  (.seq
    (.seq
      (.region [⟨some 7, .none, true, 3, .move (.tmp 6)⟩,
        ⟨some 8, .none, true, 22, .move (.tmp 0)⟩,
        ⟨some 9, .none, true, 3, .call { callee := .builtin .len, args := #[.tmp 8], argTypes := #[22] }⟩,
        ⟨some 10, .none, true, 4, .binOp .lss 3 (.tmp 7) (.tmp 9) 3⟩,
        ⟨some 11, .none, true, 4, .move (.tmp 10)⟩,
        ⟨some 12, .some 11 true, true, 22, .move (.tmp 0)⟩,
        ⟨some 13, .some 11 true, true, 3, .move (.tmp 1)⟩,
        ⟨some 14, .some 11 true, true, 4, .call { callee := .value (.func 35), args := #[.tmp 12, .tmp 13], argTypes := #[22, 3] }⟩,
        ⟨some 15, .none, true, 4, .pick (.tmp 11) (.tmp 14) (.const (.bool false))⟩])
    (.keep [0, 1, 5, 6, 15]
    (.cond (.tmp 15)
      .skip
      (.exit 0))))
  (.seq
    (.block 1
      (.seq
        (.region [⟨some 18, .none, true, 22, .move (.tmp 0)⟩,
          ⟨some 19, .none, true, 3, .move (.tmp 6)⟩,
          ⟨some 20, .none, true, 0, .indexAddr 22 (.tmp 18) (.tmp 19)⟩,
          ⟨some 21, .none, true, 3, .load 3 (.tmp 20)⟩,
          ⟨some 22, .none, true, 3, .move (.tmp 1)⟩,
          ⟨some 23, .none, true, 4, .binOp .eql 3 (.tmp 21) (.tmp 22) 3⟩])
      (.keep [0, 1, 5, 6, 23]
      (.cond (.tmp 23)
        (.region [⟨some 24, .none, true, 22, .move (.tmp 5)⟩,
          ⟨some 25, .none, true, 3, .move (.tmp 6)⟩,
          ⟨some 26, .none, true, 22, .buildSlice 22 1 #[(0, .tmp 25)]⟩,
          ⟨some 27, .none, true, 22, .call { callee := .builtin .append, args := #[.tmp 24, .tmp 26], argTypes := #[22, 22] }⟩,
          ⟨some 5, .none, true, 22, .assign (.tmp 27)⟩])
        .skip))))
  (.keep [0, 1, 5, 6]
  (.region [⟨some 16, .none, true, 3, .move (.tmp 6)⟩,
    ⟨some 17, .none, true, 3, .binOp .add 3 (.tmp 16) (.const (.int .i64 1)) 3⟩,
    ⟨some 6, .none, true, 3, .assign (.tmp 17)⟩]))))
def rc_reeveref7_Kids : RCode :=
  (.seq
    (.region [⟨some 4, .none, true, 22, .assign (.const (.slice none 0 0))⟩])
  (.keep [0, 1]
  (.seq
    (.region [⟨some 5, .none, true, 22, .assign (.const (.slice none 0 0))⟩])
  (.keep [0, 1, 5]
  (.seq
    (.seq
      (.region [⟨some 6, .none, true, 3, .assign (.const (.int .i64 0))⟩])
    (.keep [0, 1, 5, 6]
    (.block 0
      (.loop [0, 1, 5, 6] rc_reeveref7_Kidsl0))))
  (.seq
    (.region [⟨some 28, .none, true, 22, .move (.tmp 5)⟩,
      ⟨some 4, .none, true, 22, .assign (.tmp 28)⟩])
  .ret))))))
theorem t_reeveref7_Kids : FnT Try.prog f_reeveref7_Kids rc_reeveref7_Kids [.tmp 4] 2 := ⟨⟨[], Try.f26, _, Try.func26, rfl, by kernel_rfl, by kernel_rfl, by kernel_rfl, rfl, by decide⟩, by kernel_rfl⟩
/-- reeve/reeveref7.Below -/
abbrev f_reeveref7_Below : FuncId := 27
def rc_reeveref7_Belowl0 : RCode :=
  (.seq
    (.seq
      (.region [⟨some 23, .none, true, 3, .move (.tmp 7)⟩,
        ⟨some 24, .none, true, 4, .binOp .geq 3 (.tmp 23) (.const (.int .i64 0)) 3⟩])
    (.keep [0, 1, 5, 6, 7, 24]
    (.cond (.tmp 24)
      .skip
      (.exit 2))))
  (.seq
    (.block 3
      (.seq
        (.region [⟨some 29, .none, true, 3, .move (.tmp 7)⟩,
          ⟨some 30, .none, true, 3, .move (.tmp 1)⟩,
          ⟨some 31, .none, true, 4, .binOp .eql 3 (.tmp 29) (.tmp 30) 3⟩])
      (.keep [0, 1, 5, 6, 7, 31]
      (.cond (.tmp 31)
        (.region [⟨some 32, .none, true, 22, .move (.tmp 5)⟩,
          ⟨some 33, .none, true, 3, .move (.tmp 6)⟩,
          ⟨some 34, .none, true, 22, .buildSlice 22 1 #[(0, .tmp 33)]⟩,
          ⟨some 35, .none, true, 22, .call { callee := .builtin .append, args := #[.tmp 32, .tmp 34], argTypes := #[22, 22] }⟩,
          ⟨some 5, .none, true, 22, .assign (.tmp 35)⟩])
        .skip))))
  (.keep [0, 1, 5, 6, 7]
  (.region [⟨some 25, .none, true, 22, .move (.tmp 0)⟩,
    ⟨some 26, .none, true, 3, .move (.tmp 7)⟩,
    ⟨some 27, .none, true, 0, .indexAddr 22 (.tmp 25) (.tmp 26)⟩,
    ⟨some 28, .none, true, 3, .load 3 (.tmp 27)⟩,
    ⟨some 7, .none, true, 3, .assign (.tmp 28)⟩]))))
def rc_reeveref7_Belowl1 : RCode :=
  (.seq
    (.seq
      (.region [⟨some 8, .none, true, 3, .move (.tmp 6)⟩,
        ⟨some 9, .none, true, 22, .move (.tmp 0)⟩,
        ⟨some 10, .none, true, 3, .call { callee := .builtin .len, args := #[.tmp 9], argTypes := #[22] }⟩,
        ⟨some 11, .none, true, 4, .binOp .lss 3 (.tmp 8) (.tmp 10) 3⟩,
        ⟨some 12, .none, true, 4, .move (.tmp 11)⟩,
        ⟨some 13, .some 12 true, true, 22, .move (.tmp 0)⟩,
        ⟨some 14, .some 12 true, true, 3, .move (.tmp 1)⟩,
        ⟨some 15, .some 12 true, true, 4, .call { callee := .value (.func 35), args := #[.tmp 13, .tmp 14], argTypes := #[22, 3] }⟩,
        ⟨some 16, .none, true, 4, .pick (.tmp 12) (.tmp 15) (.const (.bool false))⟩])
    (.keep [0, 1, 5, 6, 16]
    (.cond (.tmp 16)
      .skip
      (.exit 0))))
  (.seq
    (.block 1
      (.seq
        (.region [⟨some 19, .none, true, 22, .move (.tmp 0)⟩,
          ⟨some 20, .none, true, 3, .move (.tmp 6)⟩,
          ⟨some 21, .none, true, 0, .indexAddr 22 (.tmp 19) (.tmp 20)⟩,
          ⟨some 22, .none, true, 3, .load 3 (.tmp 21)⟩,
          ⟨some 7, .none, true, 3, .assign (.tmp 22)⟩])
      (.keep [0, 1, 5, 6, 7]
      (.block 2
        (.loop [0, 1, 5, 6, 7] rc_reeveref7_Belowl0)))))
  (.keep [0, 1, 5, 6]
  (.region [⟨some 17, .none, true, 3, .move (.tmp 6)⟩,
    ⟨some 18, .none, true, 3, .binOp .add 3 (.tmp 17) (.const (.int .i64 1)) 3⟩,
    ⟨some 6, .none, true, 3, .assign (.tmp 18)⟩]))))
def rc_reeveref7_Below : RCode :=
  (.seq
    (.region [⟨some 4, .none, true, 22, .assign (.const (.slice none 0 0))⟩])
  (.keep [0, 1]
  (.seq
    (.region [⟨some 5, .none, true, 22, .assign (.const (.slice none 0 0))⟩])
  (.keep [0, 1, 5]
  (.seq
    (.seq
      (.region [⟨some 6, .none, true, 3, .assign (.const (.int .i64 0))⟩])
    (.keep [0, 1, 5, 6]
    (.block 0
      (.loop [0, 1, 5, 6] rc_reeveref7_Belowl1))))
  (.seq
    (.region [⟨some 36, .none, true, 22, .move (.tmp 5)⟩,
      ⟨some 4, .none, true, 22, .assign (.tmp 36)⟩])
  .ret))))))
theorem t_reeveref7_Below : FnT Try.prog f_reeveref7_Below rc_reeveref7_Below [.tmp 4] 2 := ⟨⟨[], Try.f27, _, Try.func27, rfl, by kernel_rfl, by kernel_rfl, by kernel_rfl, rfl, by decide⟩, by kernel_rfl⟩
/-- reeve/reeveref7.Order -/
abbrev f_reeveref7_Order : FuncId := 28
def rc_reeveref7_Orderl0 : RCode :=
  (.seq
    (.seq
      (.region [⟨some 8, .none, true, 3, .move (.tmp 4)⟩,
        ⟨some 9, .none, true, 22, .move (.tmp 0)⟩,
        ⟨some 10, .none, true, 3, .call { callee := .builtin .len, args := #[.tmp 9], argTypes := #[22] }⟩,
        ⟨some 11, .none, true, 4, .binOp .lss 3 (.tmp 8) (.tmp 10) 3⟩])
    (.keep [0, 3, 4, 11]
    (.cond (.tmp 11)
      .skip
      (.exit 0))))
  (.seq
    (.block 1
      (.seq
        (.region [⟨some 14, .none, true, 22, .move (.tmp 0)⟩,
          ⟨some 15, .none, true, 3, .move (.tmp 4)⟩,
          ⟨some 16, .none, true, 0, .indexAddr 22 (.tmp 14) (.tmp 15)⟩,
          ⟨some 17, .none, true, 3, .load 3 (.tmp 16)⟩,
          ⟨some 18, .none, true, 4, .binOp .eql 3 (.tmp 17) (.const (.int .i64 (-1))) 3⟩])
      (.keep [0, 3, 4, 18]
      (.cond (.tmp 18)
        (.region [⟨some 19, .none, true, 22, .move (.tmp 0)⟩,
          ⟨some 20, .none, true, 3, .move (.tmp 4)⟩,
          ⟨some 21, .none, true, 22, .move (.tmp 3)⟩,
          ⟨some 22, .none, true, 22, .call { callee := .value (.func 36), args := #[.tmp 19, .tmp 20, .tmp 21], argTypes := #[22, 3, 22] }⟩,
          ⟨some 3, .none, true, 22, .assign (.tmp 22)⟩])
        .skip))))
  (.keep [0, 3, 4]
  (.region [⟨some 12, .none, true, 3, .move (.tmp 4)⟩,
    ⟨some 13, .none, true, 3, .binOp .add 3 (.tmp 12) (.const (.int .i64 1)) 3⟩,
    ⟨some 4, .none, true, 3, .assign (.tmp 13)⟩]))))
def rc_reeveref7_Order : RCode :=
  (.seq
    (.region [⟨some 2, .none, true, 22, .assign (.const (.slice none 0 0))⟩])
  (.keep [0]
  (.seq
    (.region [⟨some 3, .none, true, 22, .assign (.const (.slice none 0 0))⟩])
  (.keep [0, 3]
  (.seq
    (.seq
      (.region [⟨some 5, .none, true, 22, .move (.tmp 0)⟩,
        ⟨some 6, .none, true, 4, .call { callee := .value (.func 24), args := #[.tmp 5], argTypes := #[22] }⟩,
        ⟨some 7, .none, true, 4, .unOp .not 4 (.tmp 6)⟩])
    (.keep [0, 3, 7]
    (.cond (.tmp 7)
      (.seq
        (.region [⟨some 2, .none, true, 22, .assign (.const (.slice none 0 0))⟩])
      .ret)
      .skip)))
  (.seq
    (.seq
      (.region [⟨some 4, .none, true, 3, .assign (.const (.int .i64 0))⟩])
    (.keep [0, 3, 4]
    (.block 0
      (.loop [0, 3, 4] rc_reeveref7_Orderl0))))
  (.seq
    (.region [⟨some 23, .none, true, 22, .move (.tmp 3)⟩,
      ⟨some 2, .none, true, 22, .assign (.tmp 23)⟩])
  .ret)))))))
theorem t_reeveref7_Order : FnT Try.prog f_reeveref7_Order rc_reeveref7_Order [.tmp 2] 1 := ⟨⟨[], Try.f28, _, Try.func28, rfl, by kernel_rfl, by kernel_rfl, by kernel_rfl, rfl, by decide⟩, by kernel_rfl⟩
/-- (reeve/forest.Forest).is -/
abbrev f_forest_Forest_is : FuncId := 29
def rc_forest_Forest_is : RCode :=
  (.seq
    (.region [⟨some 2, .none, true, 0, .box 25 (.tmp 0)⟩,
      ⟨some 4, .none, true, 4, .assign (.const (.bool false))⟩])
  (.keep [1, 2]
  (.seq
    (.region [⟨some 5, .none, true, 3, .move (.tmp 1)⟩,
      ⟨some 6, .none, true, 4, .binOp .geq 3 (.tmp 5) (.const (.int .i64 0)) 3⟩,
      ⟨some 7, .none, true, 4, .move (.tmp 6)⟩,
      ⟨some 8, .some 7 true, true, 3, .move (.tmp 1)⟩,
      ⟨some 9, .some 7 true, true, 0, .fieldAddr 25 (.tmp 2) 0⟩,
      ⟨some 10, .some 7 true, true, 22, .load 22 (.tmp 9)⟩,
      ⟨some 11, .some 7 true, true, 3, .call { callee := .builtin .len, args := #[.tmp 10], argTypes := #[22] }⟩,
      ⟨some 12, .some 7 true, true, 4, .binOp .lss 3 (.tmp 8) (.tmp 11) 3⟩,
      ⟨some 13, .none, true, 4, .pick (.tmp 7) (.tmp 12) (.const (.bool false))⟩,
      ⟨some 14, .none, true, 4, .move (.tmp 13)⟩,
      ⟨some 15, .some 14 true, true, 0, .fieldAddr 25 (.tmp 2) 0⟩,
      ⟨some 16, .some 14 true, true, 22, .load 22 (.tmp 15)⟩,
      ⟨some 17, .some 14 true, true, 3, .move (.tmp 1)⟩,
      ⟨some 18, .some 14 true, true, 0, .indexAddr 22 (.tmp 16) (.tmp 17)⟩,
      ⟨some 19, .some 14 true, true, 3, .load 3 (.tmp 18)⟩,
      ⟨some 20, .some 14 true, true, 4, .binOp .neq 3 (.tmp 19) (.const (.int .i64 (-2))) 3⟩,
      ⟨some 21, .none, true, 4, .pick (.tmp 14) (.tmp 20) (.const (.bool false))⟩,
      ⟨some 4, .none, true, 4, .assign (.tmp 21)⟩])
  .ret)))
theorem t_forest_Forest_is : FnT Try.prog f_forest_Forest_is rc_forest_Forest_is [.tmp 4] 2 := ⟨⟨[], Try.f29, _, Try.func29, rfl, by kernel_rfl, by kernel_rfl, by kernel_rfl, rfl, by decide⟩, by kernel_rfl⟩
/-- reeve/forest.may -/
abbrev f_forest_may : FuncId := 30
def rc_forest_may : RCode :=
  (.seq
    (.region [⟨some 2, .none, true, 0, .box 25 (.tmp 0)⟩,
      ⟨some 4, .none, true, 4, .assign (.const (.bool false))⟩])
  (.keep [1, 2]
  (.seq
    (.region [⟨some 5, .none, true, 25, .load 25 (.tmp 2)⟩,
      ⟨some 6, .none, true, 4, .call { callee := .value (.func 10), args := #[.tmp 5], argTypes := #[25] }⟩,
      ⟨some 7, .none, true, 4, .move (.tmp 6)⟩,
      ⟨some 8, .some 7 true, true, 25, .load 25 (.tmp 2)⟩,
      ⟨some 9, .some 7 true, true, 3, .move (.tmp 1)⟩,
      ⟨some 10, .some 7 true, true, 4, .call { callee := .value (.func 29), args := #[.tmp 8, .tmp 9], argTypes := #[25, 3] }⟩,
      ⟨some 11, .none, true, 4, .pick (.tmp 7) (.tmp 10) (.const (.bool false))⟩,
      ⟨some 4, .none, true, 4, .assign (.tmp 11)⟩])
  .ret)))
theorem t_forest_may : FnT Try.prog f_forest_may rc_forest_may [.tmp 4] 2 := ⟨⟨[], Try.f30, _, Try.func30, rfl, by kernel_rfl, by kernel_rfl, by kernel_rfl, rfl, by decide⟩, by kernel_rfl⟩
/-- (reeve/forest.Forest).of -/
abbrev f_forest_Forest_of : FuncId := 31
def rc_forest_Forest_ofl0 : RCode :=
  (.seq
    (.region [⟨some 12, .none, true, 0, .binOp .lss 3 (.tmp 11) (.tmp 10) 3⟩])
  (.keep [1, 5, 9, 10, 11, 12]
  (.seq
    (.cond (.tmp 12)
      .skip
      (.exit 0))
  (.keep [1, 5, 9, 10, 11]
  (.seq
    (.block 1
      (.seq
        (.region [⟨some 13, .none, true, 3, .move (.tmp 11)⟩,
          ⟨some 14, .none, true, 0, .indexAddr 22 (.tmp 9) (.tmp 11)⟩,
          ⟨some 15, .none, true, 3, .load 3 (.tmp 14)⟩,
          ⟨some 6, .none, true, 3, .assign (.tmp 13)⟩,
          ⟨some 7, .none, true, 3, .assign (.tmp 15)⟩])
      (.keep [1, 5, 6, 7, 9, 10, 11]
      (.seq
        (.region [⟨some 16, .none, true, 3, .move (.tmp 7)⟩,
          ⟨some 17, .none, true, 3, .move (.tmp 1)⟩,
          ⟨some 18, .none, true, 4, .binOp .eql 3 (.tmp 16) (.tmp 17) 3⟩])
      (.keep [1, 5, 6, 9, 10, 11, 18]
      (.cond (.tmp 18)
        (.region [⟨some 19, .none, true, 22, .move (.tmp 5)⟩,
          ⟨some 20, .none, true, 3, .move (.tmp 6)⟩,
          ⟨some 21, .none, true, 22, .buildSlice 22 1 #[(0, .tmp 20)]⟩,
          ⟨some 22, .none, true, 22, .call { callee := .builtin .append, args := #[.tmp 19, .tmp 21], argTypes := #[22, 22] }⟩,
          ⟨some 5, .none, true, 22, .assign (.tmp 22)⟩])
        .skip))))))
  (.keep [1, 5, 9, 10, 11]
  (.region [⟨some 23, .none, true, 3, .binOp .add 3 (.tmp 11) (.const (.int .i64 1)) 3⟩,
    ⟨some 11, .none, true, 3, .move (.tmp 23)⟩])))))))
def rc_forest_Forest_of : RCode :=
  (.seq
    (.region [⟨some 2, .none, true, 0, .box 25 (.tmp 0)⟩,
      ⟨some 4, .none, true, 22, .assign (.const (.slice none 0 0))⟩])
  (.keep [1, 2]
  (.seq
    (.region [⟨some 5, .none, true, 22, .assign (.const (.slice none 0 0))⟩])
  (.keep [1, 2, 5]
  (.seq
    (.seq
      (.region [⟨some 8, .none, true, 0, .fieldAddr 25 (.tmp 2) 0⟩,
        ⟨some 9, .none, true, 22, .load 22 (.tmp 8)⟩,
        ⟨some 10, .none, true, 3, .call { callee := .builtin .len, args := #[.tmp 9], argTypes := #[22] }⟩,
        ⟨some 11, .none, true, 3, .move (.const (.int .i64 0))⟩])
    (.keep [1, 5, 9, 10, 11]
    (.block 0
      (.loop [1, 5, 9, 10, 11] rc_forest_Forest_ofl0))))
  (.seq
    (.region [⟨some 24, .none, true, 22, .move (.tmp 5)⟩,
      ⟨some 4, .none, true, 22, .assign (.tmp 24)⟩])
  .ret))))))
theorem t_forest_Forest_of : FnT Try.prog f_forest_Forest_of rc_forest_Forest_of [.tmp 4] 2 := ⟨⟨[], Try.f31, _, Try.func31, rfl, by kernel_rfl, by kernel_rfl, by kernel_rfl, rfl, by decide⟩, by kernel_rfl⟩
/-- (reeve/forest.Forest).behind -/
abbrev f_forest_Forest_behind : FuncId := 32
def rc_forest_Forest_behindl0 : RCode :=
  (.seq
    (.region [⟨some 11, .none, true, 0, .binOp .lss 3 (.tmp 10) (.tmp 9) 3⟩])
  (.keep [2, 5, 8, 9, 10, 11]
  (.seq
    (.cond (.tmp 11)
      .skip
      (.exit 0))
  (.keep [2, 5, 8, 9, 10]
  (.seq
    (.block 1
      (.seq
        (.region [⟨some 12, .none, true, 0, .indexAddr 22 (.tmp 8) (.tmp 10)⟩,
          ⟨some 13, .none, true, 3, .load 3 (.tmp 12)⟩,
          ⟨some 7, .none, true, 3, .assign (.tmp 13)⟩])
      (.keep [2, 5, 7, 8, 9, 10]
      (.seq
        (.region [⟨some 14, .none, true, 22, .move (.tmp 5)⟩,
          ⟨some 15, .none, true, 3, .move (.tmp 7)⟩,
          ⟨some 16, .none, true, 22, .buildSlice 22 1 #[(0, .tmp 15)]⟩,
          ⟨some 17, .none, true, 22, .call { callee := .builtin .append, args := #[.tmp 14, .tmp 16], argTypes := #[22, 22] }⟩,
          ⟨some 5, .none, true, 22, .assign (.tmp 17)⟩])
      (.keep [2, 5, 7, 8, 9, 10]
      (.regionD [⟨some 18, .none, 22, .move (.tmp 5), 0, []⟩,
        ⟨some 19, .none, 25, .load 25 (.tmp 2), 1, []⟩,
        ⟨some 20, .none, 25, .load 25 (.tmp 2), 2, []⟩,
        ⟨some 21, .none, 3, .move (.tmp 7), 3, []⟩,
        ⟨some 22, .none, 22, .call { callee := .value (.func 31), args := #[.tmp 20, .tmp 21], argTypes := #[25, 3] }, 4, [1]⟩,
        ⟨some 23, .none, 22, .call { callee := .value (.func 32), args := #[.tmp 19, .tmp 22], argTypes := #[25, 22] }, 5, []⟩,
        ⟨some 24, .none, 22, .call { callee := .builtin .append, args := #[.tmp 18, .tmp 23], argTypes := #[22, 22] }, 6, []⟩,
        ⟨some 5, .none, 22, .assign (.tmp 24), 7, []⟩]))))))
  (.keep [2, 5, 8, 9, 10]
  (.region [⟨some 25, .none, true, 3, .binOp .add 3 (.tmp 10) (.const (.int .i64 1)) 3⟩,
    ⟨some 10, .none, true, 3, .move (.tmp 25)⟩])))))))
def rc_forest_Forest_behind : RCode :=
  (.seq
    (.region [⟨some 2, .none, true, 0, .box 25 (.tmp 0)⟩,
      ⟨some 4, .none, true, 22, .assign (.const (.slice none 0 0))⟩])
  (.keep [1, 2]
  (.seq
    (.region [⟨some 5, .none, true, 22, .assign (.const (.slice none 0 0))⟩])
  (.keep [1, 2, 5]
  (.seq
    (.seq
      (.region [⟨some 8, .none, true, 22, .move (.tmp 1)⟩,
        ⟨some 9, .none, true, 3, .call { callee := .builtin .len, args := #[.tmp 8], argTypes := #[22] }⟩,
        ⟨some 10, .none, true, 3, .move (.const (.int .i64 0))⟩])
    (.keep [2, 5, 8, 9, 10]
    (.block 0
      (.loop [2, 5, 8, 9, 10] rc_forest_Forest_behindl0))))
  (.seq
    (.region [⟨some 26, .none, true, 22, .move (.tmp 5)⟩,
      ⟨some 4, .none, true, 22, .assign (.tmp 26)⟩])
  .ret))))))
theorem t_forest_Forest_behind : FnT Try.prog f_forest_Forest_behind rc_forest_Forest_behind [.tmp 4] 2 := ⟨⟨[6], Try.f32, _, Try.func32, rfl, by kernel_rfl, by kernel_rfl, by kernel_rfl, rfl, by decide⟩, by kernel_rfl⟩
/-- slices.Sort[[]int,int] -/
abbrev f_slices_Sort_S_int_int : FuncId := 33
def rc_slices_Sort_S_int_int : RCode :=
  (.seq
    (.region [⟨some 3, .none, true, 22, .move (.tmp 0)⟩,
      ⟨some 4, .none, true, 3, .call { callee := .builtin .len, args := #[.tmp 3], argTypes := #[22] }⟩,
      ⟨some 2, .none, true, 3, .assign (.tmp 4)⟩])
  (.keep [0, 2]
  (.region [⟨some 5, .none, true, 22, .move (.tmp 0)⟩,
    ⟨some 6, .none, true, 3, .move (.tmp 2)⟩,
    ⟨some 7, .none, true, 3, .move (.tmp 2)⟩,
    ⟨some 8, .none, true, 54, .convert 3 54 (.tmp 7)⟩,
    ⟨some 9, .none, true, 3, .call { callee := .value (.func 38), args := #[.tmp 8], argTypes := #[54] }⟩,
    ⟨some 10, .none, true, 0, .call { callee := .value (.func 37), args := #[.tmp 5, .const (.int .i64 0), .tmp 6, .tmp 9], argTypes := #[22, 3, 3, 3] }⟩])))
theorem t_slices_Sort_S_int_int : FnT Try.prog f_slices_Sort_S_int_int rc_slices_Sort_S_int_int [] 1 := ⟨⟨[], Try.f33, _, Try.func33, rfl, by kernel_rfl, by kernel_rfl, by kernel_rfl, rfl, by decide⟩, by kernel_rfl⟩
/-- (reeve/forest.Forest).clone -/
abbrev f_forest_Forest_clone : FuncId := 34
def rc_forest_Forest_clone : RCode :=
  (.seq
    (.region [⟨some 1, .none, true, 0, .box 25 (.tmp 0)⟩,
      ⟨some 2, .none, true, 0, .alloc 25⟩])
  (.keep [1, 2]
  (.seq
    (.region [⟨some 3, .none, true, 0, .fieldAddr 25 (.tmp 1) 0⟩,
      ⟨some 4, .none, true, 22, .load 22 (.tmp 3)⟩,
      ⟨some 5, .none, true, 22, .call { callee := .value (.func 39), args := #[.tmp 4], argTypes := #[22] }⟩,
      ⟨some 6, .none, true, 25, .build 25 #[(0, .tmp 5)]⟩,
      ⟨none, .none, true, 0, .store 25 (.tmp 2) (.tmp 6)⟩])
  .ret)))
theorem t_forest_Forest_clone : FnT Try.prog f_forest_Forest_clone rc_forest_Forest_clone [.cell 2 25] 1 := ⟨⟨[], Try.f34, _, Try.func34, rfl, by kernel_rfl, by kernel_rfl, by kernel_rfl, rfl, by decide⟩, by kernel_rfl⟩
/-- reeve/reeveref7.There -/
abbrev f_reeveref7_There : FuncId := 35
def rc_reeveref7_There : RCode :=
  (.seq
    (.region [⟨some 4, .none, true, 4, .assign (.const (.bool false))⟩])
  (.keep [0, 1]
  (.seq
    (.region [⟨some 5, .none, true, 22, .move (.tmp 0)⟩,
      ⟨some 6, .none, true, 4, .call { callee := .value (.func 24), args := #[.tmp 5], argTypes := #[22] }⟩,
      ⟨some 7, .none, true, 4, .move (.tmp 6)⟩,
      ⟨some 8, .some 7 true, true, 3, .move (.tmp 1)⟩,
      ⟨some 9, .some 7 true, true, 4, .binOp .geq 3 (.tmp 8) (.const (.int .i64 0)) 3⟩,
      ⟨some 10, .none, true, 4, .pick (.tmp 7) (.tmp 9) (.const (.bool false))⟩,
      ⟨some 11, .none, true, 4, .move (.tmp 10)⟩,
      ⟨some 12, .some 11 true, true, 3, .move (.tmp 1)⟩,
      ⟨some 13, .some 11 true, true, 22, .move (.tmp 0)⟩,
      ⟨some 14, .some 11 true, true, 3, .call { callee := .builtin .len, args := #[.tmp 13], argTypes := #[22] }⟩,
      ⟨some 15, .some 11 true, true, 4, .binOp .lss 3 (.tmp 12) (.tmp 14) 3⟩,
      ⟨some 16, .none, true, 4, .pick (.tmp 11) (.tmp 15) (.const (.bool false))⟩,
      ⟨some 17, .none, true, 4, .move (.tmp 16)⟩,
      ⟨some 18, .some 17 true, true, 22, .move (.tmp 0)⟩,
      ⟨some 19, .some 17 true, true, 3, .move (.tmp 1)⟩,
      ⟨some 20, .some 17 true, true, 0, .indexAddr 22 (.tmp 18) (.tmp 19)⟩,
      ⟨some 21, .some 17 true, true, 3, .load 3 (.tmp 20)⟩,
      ⟨some 22, .some 17 true, true, 4, .binOp .neq 3 (.tmp 21) (.const (.int .i64 (-2))) 3⟩,
      ⟨some 23, .none, true, 4, .pick (.tmp 17) (.tmp 22) (.const (.bool false))⟩,
      ⟨some 4, .none, true, 4, .assign (.tmp 23)⟩])
  .ret)))
theorem t_reeveref7_There : FnT Try.prog f_reeveref7_There rc_reeveref7_There [.tmp 4] 2 := ⟨⟨[], Try.f35, _, Try.func35, rfl, by kernel_rfl, by kernel_rfl, by kernel_rfl, rfl, by decide⟩, by kernel_rfl⟩
/-- reeve/reeveref7.down -/
abbrev f_reeveref7_down : FuncId := 36
def rc_reeveref7_downl0 : RCode :=
  (.seq
    (.seq
      (.region [⟨some 12, .none, true, 3, .move (.tmp 7)⟩,
        ⟨some 13, .none, true, 22, .move (.tmp 0)⟩,
        ⟨some 14, .none, true, 3, .call { callee := .builtin .len, args := #[.tmp 13], argTypes := #[22] }⟩,
        ⟨some 15, .none, true, 4, .binOp .lss 3 (.tmp 12) (.tmp 14) 3⟩])
    (.keep [0, 1, 2, 7, 15]
    (.cond (.tmp 15)
      .skip
      (.exit 0))))
  (.seq
    (.block 1
      (.seq
        (.region [⟨some 18, .none, true, 22, .move (.tmp 0)⟩,
          ⟨some 19, .none, true, 3, .move (.tmp 7)⟩,
          ⟨some 20, .none, true, 0, .indexAddr 22 (.tmp 18) (.tmp 19)⟩,
          ⟨some 21, .none, true, 3, .load 3 (.tmp 20)⟩,
          ⟨some 22, .none, true, 3, .move (.tmp 1)⟩,
          ⟨some 23, .none, true, 4, .binOp .eql 3 (.tmp 21) (.tmp 22) 3⟩])
      (.keep [0, 1, 2, 7, 23]
      (.cond (.tmp 23)
        (.region [⟨some 24, .none, true, 22, .move (.tmp 0)⟩,
          ⟨some 25, .none, true, 3, .move (.tmp 7)⟩,
          ⟨some 26, .none, true, 22, .move (.tmp 2)⟩,
          ⟨some 27, .none, true, 22, .call { callee := .value (.func 36), args := #[.tmp 24, .tmp 25, .tmp 26], argTypes := #[22, 3, 22] }⟩,
          ⟨some 2, .none, true, 22, .assign (.tmp 27)⟩])
        .skip))))
  (.keep [0, 1, 2, 7]
  (.region [⟨some 16, .none, true, 3, .move (.tmp 7)⟩,
    ⟨some 17, .none, true, 3, .binOp .add 3 (.tmp 16) (.const (.int .i64 1)) 3⟩,
    ⟨some 7, .none, true, 3, .assign (.tmp 17)⟩]))))
def rc_reeveref7_down : RCode :=
  (.seq
    (.region [⟨some 6, .none, true, 22, .assign (.const (.slice none 0 0))⟩])
  (.keep [0, 1, 2]
  (.seq
    (.region [⟨some 8, .none, true, 22, .move (.tmp 2)⟩,
      ⟨some 9, .none, true, 3, .move (.tmp 1)⟩,
      ⟨some 10, .none, true, 22, .buildSlice 22 1 #[(0, .tmp 9)]⟩,
      ⟨some 11, .none, true, 22, .call { callee := .builtin .append, args := #[.tmp 8, .tmp 10], argTypes := #[22, 22] }⟩,
      ⟨some 2, .none, true, 22, .assign (.tmp 11)⟩])
  (.keep [0, 1, 2]
  (.seq
    (.seq
      (.region [⟨some 7, .none, true, 3, .assign (.const (.int .i64 0))⟩])
    (.keep [0, 1, 2, 7]
    (.block 0
      (.loop [0, 1, 2, 7] rc_reeveref7_downl0))))
  (.seq
    (.region [⟨some 28, .none, true, 22, .move (.tmp 2)⟩,
      ⟨some 6, .none, true, 22, .assign (.tmp 28)⟩])
  .ret))))))
theorem t_reeveref7_down : FnT Try.prog f_reeveref7_down rc_reeveref7_down [.tmp 6] 3 := ⟨⟨[], Try.f36, _, Try.func36, rfl, by kernel_rfl, by kernel_rfl, by kernel_rfl, rfl, by decide⟩, by kernel_rfl⟩
/-- slices.pdqsortOrdered[int] -/
abbrev f_slices_pdqsortOrdered_int : FuncId := 37
def rc_slices_pdqsortOrdered_intl0 : RCode :=
  (.block 1
    (.seq
      (.region [⟨some 19, .none, true, 3, .move (.tmp 2)⟩,
        ⟨some 20, .none, true, 3, .move (.tmp 1)⟩,
        ⟨some 21, .none, true, 3, .binOp .sub 3 (.tmp 19) (.tmp 20) 3⟩,
        ⟨some 10, .none, true, 3, .assign (.tmp 21)⟩])
    (.keep [0, 1, 2, 3, 8, 9, 10]
    (.seq
      (.seq
        (.region [⟨some 22, .none, true, 3, .move (.tmp 10)⟩,
          ⟨some 23, .none, true, 4, .binOp .leq 3 (.tmp 22) (.const (.int .i64 12)) 3⟩])
      (.keep [0, 1, 2, 3, 8, 9, 10, 23]
      (.cond (.tmp 23)
        (.seq
          (.region [⟨some 24, .none, true, 22, .move (.tmp 0)⟩,
            ⟨some 25, .none, true, 3, .move (.tmp 1)⟩,
            ⟨some 26, .none, true, 3, .move (.tmp 2)⟩,
            ⟨some 27, .none, true, 0, .call { callee := .value (.func 40), args := #[.tmp 24, .tmp 25, .tmp 26], argTypes := #[22, 3, 3] }⟩])
        .ret)
        .skip)))
    (.seq
      (.seq
        (.region [⟨some 28, .none, true, 3, .move (.tmp 3)⟩,
          ⟨some 29, .none, true, 4, .binOp .eql 3 (.tmp 28) (.const (.int .i64 0)) 3⟩])
      (.keep [0, 1, 2, 3, 8, 9, 10, 29]
      (.cond (.tmp 29)
        (.seq
          (.region [⟨some 30, .none, true, 22, .move (.tmp 0)⟩,
            ⟨some 31, .none, true, 3, .move (.tmp 1)⟩,
            ⟨some 32, .none, true, 3, .move (.tmp 2)⟩,
            ⟨some 33, .none, true, 0, .call { callee := .value (.func 41), args := #[.tmp 30, .tmp 31, .tmp 32], argTypes := #[22, 3, 3] }⟩])
        .ret)
        .skip)))
    (.seq
      (.seq
        (.region [⟨some 34, .none, true, 4, .move (.tmp 8)⟩,
          ⟨some 35, .none, true, 4, .unOp .not 4 (.tmp 34)⟩])
      (.keep [0, 1, 2, 3, 8, 9, 10, 35]
      (.cond (.tmp 35)
        (.seq
          (.region [⟨some 36, .none, true, 22, .move (.tmp 0)⟩,
            ⟨some 37, .none, true, 3, .move (.tmp 1)⟩,
            ⟨some 38, .none, true, 3, .move (.tmp 2)⟩,
            ⟨some 39, .none, true, 0, .call { callee := .value (.func 42), args := #[.tmp 36, .tmp 37, .tmp 38], argTypes := #[22, 3, 3] }⟩])
        (.keep [0, 1, 2, 3, 8, 9, 10]
        (.region [⟨some 40, .none, true, 3, .move (.tmp 3)⟩,
          ⟨some 41, .none, true, 3, .binOp .sub 3 (.tmp 40) (.const (.int .i64 1)) 3⟩,
          ⟨some 3, .none, true, 3, .assign (.tmp 41)⟩])))
        .skip)))
    (.seq
      (.region [⟨some 43, .none, true, 22, .move (.tmp 0)⟩,
        ⟨some 44, .none, true, 3, .move (.tmp 1)⟩,
        ⟨some 45, .none, true, 3, .move (.tmp 2)⟩,
        ⟨some 46, .none, true, 57, .call { callee := .value (.func 43), args := #[.tmp 43, .tmp 44, .tmp 45], argTypes := #[22, 3, 3] }⟩,
        ⟨some 42, .none, true, 57, .move (.tmp 46)⟩,
        ⟨some 47, .none, true, 3, .extract (.tmp 42) 0⟩,
        ⟨some 48, .none, true, 56, .extract (.tmp 42) 1⟩,
        ⟨some 11, .none, true, 3, .assign (.tmp 47)⟩,
        ⟨some 12, .none, true, 56, .assign (.tmp 48)⟩])
    (.keep [0, 1, 2, 3, 8, 9, 10, 11, 12]
    (.seq
      (.seq
        (.region [⟨some 49, .none, true, 56, .move (.tmp 12)⟩,
          ⟨some 50, .none, true, 4, .binOp .eql 56 (.tmp 49) (.const (.int .i64 2)) 56⟩])
      (.keep [0, 1, 2, 3, 8, 9, 10, 11, 12, 50]
      (.cond (.tmp 50)
        (.seq
          (.region [⟨some 51, .none, true, 22, .move (.tmp 0)⟩,
            ⟨some 52, .none, true, 3, .move (.tmp 1)⟩,
            ⟨some 53, .none, true, 3, .move (.tmp 2)⟩,
            ⟨some 54, .none, true, 0, .call { callee := .value (.func 44), args := #[.tmp 51, .tmp 52, .tmp 53], argTypes := #[22, 3, 3] }⟩])
        (.keep [0, 1, 2, 3, 8, 9, 10, 11]
        (.seq
          (.region [⟨some 55, .none, true, 3, .move (.tmp 2)⟩,
            ⟨some 56, .none, true, 3, .binOp .sub 3 (.tmp 55) (.const (.int .i64 1)) 3⟩,
            ⟨some 57, .none, true, 3, .move (.tmp 11)⟩,
            ⟨some 58, .none, true, 3, .move (.tmp 1)⟩,
            ⟨some 59, .none, true, 3, .binOp .sub 3 (.tmp 57) (.tmp 58) 3⟩,
            ⟨some 60, .none, true, 3, .binOp .sub 3 (.tmp 56) (.tmp 59) 3⟩,
            ⟨some 11, .none, true, 3, .assign (.tmp 60)⟩])
        (.keep [0, 1, 2, 3, 8, 9, 10, 11]
        (.region [⟨some 12, .none, true, 56, .assign (.const (.int .i64 1))⟩])))))
        .skip)))
    (.seq
      (.seq
        (.region [⟨some 61, .none, true, 4, .move (.tmp 8)⟩,
          ⟨some 62, .none, true, 4, .move (.tmp 61)⟩,
          ⟨some 63, .some 62 true, true, 4, .move (.tmp 9)⟩,
          ⟨some 64, .none, true, 4, .pick (.tmp 62) (.tmp 63) (.const (.bool false))⟩,
          ⟨some 65, .none, true, 4, .move (.tmp 64)⟩,
          ⟨some 66, .some 65 true, true, 56, .move (.tmp 12)⟩,
          ⟨some 67, .some 65 true, true, 4, .binOp .eql 56 (.tmp 66) (.const (.int .i64 1)) 56⟩,
          ⟨some 68, .none, true, 4, .pick (.tmp 65) (.tmp 67) (.const (.bool false))⟩])
      (.keep [0, 1, 2, 3, 8, 9, 10, 11, 68]
      (.cond (.tmp 68)
        (.seq
          (.region [⟨some 69, .none, true, 22, .move (.tmp 0)⟩,
            ⟨some 70, .none, true, 3, .move (.tmp 1)⟩,
            ⟨some 71, .none, true, 3, .move (.tmp 2)⟩,
            ⟨some 72, .none, true, 4, .call { callee := .value (.func 45), args := #[.tmp 69, .tmp 70, .tmp 71], argTypes := #[22, 3, 3] }⟩])
        (.keep [0, 1, 2, 3, 8, 9, 10, 11, 72]
        (.cond (.tmp 72)
          .ret
          .skip)))
        .skip)))
    (.seq
      (.seq
        (.region [⟨some 73, .none, true, 3, .move (.tmp 1)⟩,
          ⟨some 74, .none, true, 4, .binOp .gtr 3 (.tmp 73) (.const (.int .i64 0)) 3⟩,
          ⟨some 75, .none, true, 4, .move (.tmp 74)⟩,
          ⟨some 76, .some 75 true, false, 22, .move (.tmp 0)⟩,
          ⟨some 77, .some 75 true, false, 3, .move (.tmp 1)⟩,
          ⟨some 78, .some 75 true, false, 3, .binOp .sub 3 (.tmp 77) (.const (.int .i64 1)) 3⟩,
          ⟨some 79, .some 75 true, false, 0, .indexAddr 22 (.tmp 76) (.tmp 78)⟩,
          ⟨some 80, .some 75 true, false, 3, .load 3 (.tmp 79)⟩,
          ⟨some 81, .some 75 true, false, 22, .move (.tmp 0)⟩,
          ⟨some 82, .some 75 true, false, 3, .move (.tmp 11)⟩,
          ⟨some 83, .some 75 true, false, 0, .indexAddr 22 (.tmp 81) (.tmp 82)⟩,
          ⟨some 84, .some 75 true, false, 3, .load 3 (.tmp 83)⟩,
          ⟨some 85, .some 75 true, true, 4, .call { callee := .value (.func 46), args := #[.tmp 80, .tmp 84], argTypes := #[3, 3] }⟩,
          ⟨some 86, .some 75 true, true, 4, .unOp .not 4 (.tmp 85)⟩,
          ⟨some 87, .none, true, 4, .pick (.tmp 75) (.tmp 86) (.const (.bool false))⟩])
      (.keep [0, 1, 2, 3, 8, 9, 10, 11, 87]
      (.cond (.tmp 87)
        (.seq
          (.region [⟨some 88, .none, true, 22, .move (.tmp 0)⟩,
            ⟨some 89, .none, true, 3, .move (.tmp 1)⟩,
            ⟨some 90, .none, true, 3, .move (.tmp 2)⟩,
            ⟨some 91, .none, true, 3, .move (.tmp 11)⟩,
            ⟨some 92, .none, true, 3, .call { callee := .value (.func 47), args := #[.tmp 88, .tmp 89, .tmp 90, .tmp 91], argTypes := #[22, 3, 3, 3] }⟩,
            ⟨some 13, .none, true, 3, .assign (.tmp 92)⟩])
        (.keep [0, 2, 3, 8, 9, 13]
        (.seq
          (.region [⟨some 93, .none, true, 3, .move (.tmp 13)⟩,
            ⟨some 1, .none, true, 3, .assign (.tmp 93)⟩])
        (.exit 1))))
        .skip)))
    (.seq
      (.region [⟨some 95, .none, true, 22, .move (.tmp 0)⟩,
        ⟨some 96, .none, true, 3, .move (.tmp 1)⟩,
        ⟨some 97, .none, true, 3, .move (.tmp 2)⟩,
        ⟨some 98, .none, true, 3, .move (.tmp 11)⟩,
        ⟨some 99, .none, true, 61, .call { callee := .value (.func 48), args := #[.tmp 95, .tmp 96, .tmp 97, .tmp 98], argTypes := #[22, 3, 3, 3] }⟩,
        ⟨some 94, .none, true, 61, .move (.tmp 99)⟩,
        ⟨some 100, .none, true, 3, .extract (.tmp 94) 0⟩,
        ⟨some 101, .none, true, 4, .extract (.tmp 94) 1⟩,
        ⟨some 14, .none, true, 3, .assign (.tmp 100)⟩,
        ⟨some 15, .none, true, 4, .assign (.tmp 101)⟩])
    (.keep [0, 1, 2, 3, 10, 14, 15]
    (.seq
      (.region [⟨some 102, .none, true, 4, .move (.tmp 15)⟩,
        ⟨some 9, .none, true, 4, .assign (.tmp 102)⟩])
    (.keep [0, 1, 2, 3, 9, 10, 14]
    (.seq
      (.region [⟨some 103, .none, true, 3, .move (.tmp 14)⟩,
        ⟨some 104, .none, true, 3, .move (.tmp 1)⟩,
        ⟨some 105, .none, true, 3, .binOp .sub 3 (.tmp 103) (.tmp 104) 3⟩,
        ⟨some 106, .none, true, 3, .move (.tmp 2)⟩,
        ⟨some 107, .none, true, 3, .move (.tmp 14)⟩,
        ⟨some 108, .none, true, 3, .binOp .sub 3 (.tmp 106) (.tmp 107) 3⟩,
        ⟨some 16, .none, true, 3, .assign (.tmp 105)⟩,
        ⟨some 17, .none, true, 3, .assign (.tmp 108)⟩])
    (.keep [0, 1, 2, 3, 9, 10, 14, 16, 17]
    (.seq
      (.region [⟨some 109, .none, true, 3, .move (.tmp 10)⟩,
        ⟨some 110, .none, true, 3, .binOp .quo 3 (.tmp 109) (.const (.int .i64 8)) 3⟩,
        ⟨some 18, .none, true, 3, .assign (.tmp 110)⟩])
    (.keep [0, 1, 2, 3, 9, 14, 16, 17, 18]
    (.seq
      (.region [⟨some 111, .none, true, 3, .move (.tmp 16)⟩,
        ⟨some 112, .none, true, 3, .move (.tmp 17)⟩,
        ⟨some 113, .none, true, 4, .binOp .lss 3 (.tmp 111) (.tmp 112) 3⟩])
    (.keep [0, 1, 2, 3, 9, 14, 16, 17, 18, 113]
    (.cond (.tmp 113)
      (.seq
        (.region [⟨some 114, .none, true, 3, .move (.tmp 16)⟩,
          ⟨some 115, .none, true, 3, .move (.tmp 18)⟩,
          ⟨some 116, .none, true, 4, .binOp .geq 3 (.tmp 114) (.tmp 115) 3⟩,
          ⟨some 8, .none, true, 4, .assign (.tmp 116)⟩])
      (.keep [0, 1, 2, 3, 8, 9, 14]
      (.seq
        (.region [⟨some 117, .none, true, 22, .move (.tmp 0)⟩,
          ⟨some 118, .none, true, 3, .move (.tmp 1)⟩,
          ⟨some 119, .none, true, 3, .move (.tmp 14)⟩,
          ⟨some 120, .none, true, 3, .move (.tmp 3)⟩,
          ⟨some 121, .none, true, 0, .call { callee := .value (.func 37), args := #[.tmp 117, .tmp 118, .tmp 119, .tmp 120], argTypes := #[22, 3, 3, 3] }⟩])
      (.keep [0, 2, 3, 8, 9, 14]
      (.region [⟨some 122, .none, true, 3, .move (.tmp 14)⟩,
        ⟨some 123, .none, true, 3, .binOp .add 3 (.tmp 122) (.const (.int .i64 1)) 3⟩,
        ⟨some 1, .none, true, 3, .assign (.tmp 123)⟩])))))
      (.seq
        (.region [⟨some 124, .none, true, 3, .move (.tmp 17)⟩,
          ⟨some 125, .none, true, 3, .move (.tmp 18)⟩,
          ⟨some 126, .none, true, 4, .binOp .geq 3 (.tmp 124) (.tmp 125) 3⟩,
          ⟨some 8, .none, true, 4, .assign (.tmp 126)⟩])
      (.keep [0, 1, 2, 3, 8, 9, 14]
      (.seq
        (.region [⟨some 127, .none, true, 22, .move (.tmp 0)⟩,
          ⟨some 128, .none, true, 3, .move (.tmp 14)⟩,
          ⟨some 129, .none, true, 3, .binOp .add 3 (.tmp 128) (.const (.int .i64 1)) 3⟩,
          ⟨some 130, .none, true, 3, .move (.tmp 2)⟩,
          ⟨some 131, .none, true, 3, .move (.tmp 3)⟩,
          ⟨some 132, .none, true, 0, .call { callee := .value (.func 37), args := #[.tmp 127, .tmp 129, .tmp 130, .tmp 131], argTypes := #[22, 3, 3, 3] }⟩])
      (.keep [0, 1, 3, 8, 9, 14]
      (.region [⟨some 133, .none, true, 3, .move (.tmp 14)⟩,
        ⟨some 2, .none, true, 3, .assign (.tmp 133)⟩])))))))))))))))))))))))))))
def rc_slices_pdqsortOrdered_int : RCode :=
  (.seq
    (.region [⟨some 8, .none, true, 4, .assign (.const (.bool true))⟩])
  (.keep [0, 1, 2, 3, 8]
  (.seq
    (.region [⟨some 9, .none, true, 4, .assign (.const (.bool true))⟩])
  (.keep [0, 1, 2, 3, 8, 9]
  (.block 0
    (.loop [0, 1, 2, 3, 8, 9] rc_slices_pdqsortOrdered_intl0))))))
theorem t_slices_pdqsortOrdered_int : FnT Try.prog f_slices_pdqsortOrdered_int rc_slices_pdqsortOrdered_int [] 4 := ⟨⟨[], Try.f37, _, Try.func37, rfl, by kernel_rfl, by kernel_rfl, by kernel_rfl, rfl, by decide⟩, by kernel_rfl⟩
/-- math/bits.Len -/
abbrev f_math_bits_Len : FuncId := 38
def rc_math_bits_Len : RCode :=
  (.seq
    (.region [⟨some 2, .none, true, 3, .assign (.const (.int .i64 0))⟩])
  (.keep [0]
  (.seq
    (.cond (.const (.bool false))
      (.seq
        (.region [⟨some 3, .none, true, 54, .move (.tmp 0)⟩,
          ⟨some 4, .none, true, 64, .convert 54 64 (.tmp 3)⟩,
          ⟨some 5, .none, true, 3, .call { callee := .value (.func 49), args := #[.tmp 4], argTypes := #[64] }⟩,
          ⟨some 2, .none, true, 3, .assign (.tmp 5)⟩])
      .ret)
      .skip)
  (.keep [0]
  (.seq
    (.region [⟨some 6, .none, true, 54, .move (.tmp 0)⟩,
      ⟨some 7, .none, true, 3, .call { callee := .value (.func 50), args := #[.tmp 6], argTypes := #[66] }⟩,
      ⟨some 2, .none, true, 3, .assign (.tmp 7)⟩])
  .ret)))))
theorem t_math_bits_Len : FnT Try.prog f_math_bits_Len rc_math_bits_Len [.tmp 2] 1 := ⟨⟨[], Try.f38, _, Try.func38, rfl, by kernel_rfl, by kernel_rfl, by kernel_rfl, rfl, by decide⟩, by kernel_rfl⟩
/-- slices.Clone[[]int,int] -/
abbrev f_slices_Clone_S_int_int : FuncId := 39
def rc_slices_Clone_S_int_int : RCode :=
  (.seq
    (.region [⟨some 2, .none, true, 22, .assign (.const (.slice none 0 0))⟩])
  (.keep [0]
  (.seq
    (.seq
      (.region [⟨some 3, .none, true, 22, .move (.tmp 0)⟩,
        ⟨some 4, .none, true, 4, .binOp .eql 22 (.tmp 3) (.const (.slice none 0 0)) 22⟩])
    (.keep [0, 4]
    (.cond (.tmp 4)
      (.seq
        (.region [⟨some 2, .none, true, 22, .assign (.const (.slice none 0 0))⟩])
      .ret)
      .skip)))
  (.seq
    (.region [⟨some 5, .none, true, 22, .buildSlice 22 0 #[]⟩,
      ⟨some 6, .none, true, 22, .move (.tmp 0)⟩,
      ⟨some 7, .none, true, 22, .call { callee := .builtin .append, args := #[.tmp 5, .tmp 6], argTypes := #[22, 22] }⟩,
      ⟨some 2, .none, true, 22, .assign (.tmp 7)⟩])
  .ret))))
theorem t_slices_Clone_S_int_int : FnT Try.prog f_slices_Clone_S_int_int rc_slices_Clone_S_int_int [.tmp 2] 1 := ⟨⟨[], Try.f39, _, Try.func39, rfl, by kernel_rfl, by kernel_rfl, by kernel_rfl, rfl, by decide⟩, by kernel_rfl⟩
/-- slices.insertionSortOrdered[int] -/
abbrev f_slices_insertionSortOrdered_int : FuncId := 40
def rc_slices_insertionSortOrdered_intl0 : RCode :=
  (.seq
    (.seq
      (.region [⟨some 16, .none, true, 3, .move (.tmp 7)⟩,
        ⟨some 17, .none, true, 3, .move (.tmp 1)⟩,
        ⟨some 18, .none, true, 4, .binOp .gtr 3 (.tmp 16) (.tmp 17) 3⟩,
        ⟨some 19, .none, true, 4, .move (.tmp 18)⟩,
        ⟨some 20, .some 19 true, false, 22, .move (.tmp 0)⟩,
        ⟨some 21, .some 19 true, false, 3, .move (.tmp 7)⟩,
        ⟨some 22, .some 19 true, false, 0, .indexAddr 22 (.tmp 20) (.tmp 21)⟩,
        ⟨some 23, .some 19 true, false, 3, .load 3 (.tmp 22)⟩,
        ⟨some 24, .some 19 true, false, 22, .move (.tmp 0)⟩,
        ⟨some 25, .some 19 true, false, 3, .move (.tmp 7)⟩,
        ⟨some 26, .some 19 true, false, 3, .binOp .sub 3 (.tmp 25) (.const (.int .i64 1)) 3⟩,
        ⟨some 27, .some 19 true, false, 0, .indexAddr 22 (.tmp 24) (.tmp 26)⟩,
        ⟨some 28, .some 19 true, false, 3, .load 3 (.tmp 27)⟩,
        ⟨some 29, .some 19 true, true, 4, .call { callee := .value (.func 46), args := #[.tmp 23, .tmp 28], argTypes := #[3, 3] }⟩,
        ⟨some 30, .none, true, 4, .pick (.tmp 19) (.tmp 29) (.const (.bool false))⟩])
    (.keep [0, 1, 2, 6, 7, 30]
    (.cond (.tmp 30)
      .skip
      (.exit 2))))
  (.seq
    (.block 3
      (.region [⟨some 33, .none, false, 22, .move (.tmp 0)⟩,
        ⟨some 34, .none, false, 3, .move (.tmp 7)⟩,
        ⟨some 35, .none, false, 22, .move (.tmp 0)⟩,
        ⟨some 36, .none, false, 3, .move (.tmp 7)⟩,
        ⟨some 37, .none, false, 3, .binOp .sub 3 (.tmp 36) (.const (.int .i64 1)) 3⟩,
        ⟨some 38, .none, false, 22, .move (.tmp 0)⟩,
        ⟨some 39, .none, false, 3, .move (.tmp 7)⟩,
        ⟨some 40, .none, false, 3, .binOp .sub 3 (.tmp 39) (.const (.int .i64 1)) 3⟩,
        ⟨some 41, .none, false, 0, .indexAddr 22 (.tmp 38) (.tmp 40)⟩,
        ⟨some 42, .none, false, 3, .load 3 (.tmp 41)⟩,
        ⟨some 43, .none, false, 22, .move (.tmp 0)⟩,
        ⟨some 44, .none, false, 3, .move (.tmp 7)⟩,
        ⟨some 45, .none, false, 0, .indexAddr 22 (.tmp 43) (.tmp 44)⟩,
        ⟨some 46, .none, false, 3, .load 3 (.tmp 45)⟩,
        ⟨some 47, .none, true, 0, .indexAddr 22 (.tmp 33) (.tmp 34)⟩,
        ⟨none, .none, true, 0, .store 3 (.tmp 47) (.tmp 42)⟩,
        ⟨some 48, .none, true, 0, .indexAddr 22 (.tmp 35) (.tmp 37)⟩,
        ⟨none, .none, true, 0, .store 3 (.tmp 48) (.tmp 46)⟩]))
  (.keep [0, 1, 2, 6, 7]
  (.region [⟨some 31, .none, true, 3, .move (.tmp 7)⟩,
    ⟨some 32, .none, true, 3, .binOp .sub 3 (.tmp 31) (.const (.int .i64 1)) 3⟩,
    ⟨some 7, .none, true, 3, .assign (.tmp 32)⟩]))))
def rc_slices_insertionSortOrdered_intl1 : RCode :=
  (.seq
    (.seq
      (.region [⟨some 10, .none, true, 3, .move (.tmp 6)⟩,
        ⟨some 11, .none, true, 3, .move (.tmp 2)⟩,
        ⟨some 12, .none, true, 4, .binOp .lss 3 (.tmp 10) (.tmp 11) 3⟩])
    (.keep [0, 1, 2, 6, 12]
    (.cond (.tmp 12)
      .skip
      (.exit 0))))
  (.seq
    (.block 1
      (.seq
        (.region [⟨some 15, .none, true, 3, .move (.tmp 6)⟩,
          ⟨some 7, .none, true, 3, .assign (.tmp 15)⟩])
      (.keep [0, 1, 2, 6, 7]
      (.block 2
        (.loop [0, 1, 2, 6, 7] rc_slices_insertionSortOrdered_intl0)))))
  (.keep [0, 1, 2, 6]
  (.region [⟨some 13, .none, true, 3, .move (.tmp 6)⟩,
    ⟨some 14, .none, true, 3, .binOp .add 3 (.tmp 13) (.const (.int .i64 1)) 3⟩,
    ⟨some 6, .none, true, 3, .assign (.tmp 14)⟩]))))
def rc_slices_insertionSortOrdered_int : RCode :=
  (.seq
    (.region [⟨some 8, .none, true, 3, .move (.tmp 1)⟩,
      ⟨some 9, .none, true, 3, .binOp .add 3 (.tmp 8) (.const (.int .i64 1)) 3⟩,
      ⟨some 6, .none, true, 3, .assign (.tmp 9)⟩])
  (.keep [0, 1, 2, 6]
  (.block 0
    (.loop [0, 1, 2, 6] rc_slices_insertionSortOrdered_intl1))))
theorem t_slices_insertionSortOrdered_int : FnT Try.prog f_slices_insertionSortOrdered_int rc_slices_insertionSortOrdered_int [] 3 := ⟨⟨[], Try.f40, _, Try.func40, rfl, by kernel_rfl, by kernel_rfl, by kernel_rfl, rfl, by decide⟩, by kernel_rfl⟩
/-- slices.heapSortOrdered[int] -/
abbrev f_slices_heapSortOrdered_int : FuncId := 41
def rc_slices_heapSortOrdered_intl0 : RCode :=
  (.seq
    (.seq
      (.region [⟨some 18, .none, true, 3, .move (.tmp 9)⟩,
        ⟨some 19, .none, true, 4, .binOp .geq 3 (.tmp 18) (.const (.int .i64 0)) 3⟩])
    (.keep [0, 6, 7, 8, 9, 19]
    (.cond (.tmp 19)
      .skip
      (.exit 0))))
  (.seq
    (.block 1
      (.region [⟨some 22, .none, true, 22, .move (.tmp 0)⟩,
        ⟨some 23, .none, true, 3, .move (.tmp 9)⟩,
        ⟨some 24, .none, true, 3, .move (.tmp 8)⟩,
        ⟨some 25, .none, true, 3, .move (.tmp 6)⟩,
        ⟨some 26, .none, true, 0, .call { callee := .value (.func 51), args := #[.tmp 22, .tmp 23, .tmp 24, .tmp 25], argTypes := #[22, 3, 3, 3] }⟩]))
  (.keep [0, 6, 7, 8, 9]
  (.region [⟨some 20, .none, true, 3, .move (.tmp 9)⟩,
    ⟨some 21, .none, true, 3, .binOp .sub 3 (.tmp 20) (.const (.int .i64 1)) 3⟩,
    ⟨some 9, .none, true, 3, .assign (.tmp 21)⟩]))))
def rc_slices_heapSortOrdered_intl1 : RCode :=
  (.seq
    (.seq
      (.region [⟨some 29, .none, true, 3, .move (.tmp 10)⟩,
        ⟨some 30, .none, true, 4, .binOp .geq 3 (.tmp 29) (.const (.int .i64 0)) 3⟩])
    (.keep [0, 6, 7, 10, 30]
    (.cond (.tmp 30)
      .skip
      (.exit 2))))
  (.seq
    (.block 3
      (.seq
        (.region [⟨some 33, .none, false, 22, .move (.tmp 0)⟩,
          ⟨some 34, .none, false, 3, .move (.tmp 6)⟩,
          ⟨some 35, .none, false, 22, .move (.tmp 0)⟩,
          ⟨some 36, .none, false, 3, .move (.tmp 6)⟩,
          ⟨some 37, .none, false, 3, .move (.tmp 10)⟩,
          ⟨some 38, .none, false, 3, .binOp .add 3 (.tmp 36) (.tmp 37) 3⟩,
          ⟨some 39, .none, false, 22, .move (.tmp 0)⟩,
          ⟨some 40, .none, false, 3, .move (.tmp 6)⟩,
          ⟨some 41, .none, false, 3, .move (.tmp 10)⟩,
          ⟨some 42, .none, false, 3, .binOp .add 3 (.tmp 40) (.tmp 41) 3⟩,
          ⟨some 43, .none, false, 0, .indexAddr 22 (.tmp 39) (.tmp 42)⟩,
          ⟨some 44, .none, false, 3, .load 3 (.tmp 43)⟩,
          ⟨some 45, .none, false, 22, .move (.tmp 0)⟩,
          ⟨some 46, .none, false, 3, .move (.tmp 6)⟩,
          ⟨some 47, .none, false, 0, .indexAddr 22 (.tmp 45) (.tmp 46)⟩,
          ⟨some 48, .none, false, 3, .load 3 (.tmp 47)⟩,
          ⟨some 49, .none, true, 0, .indexAddr 22 (.tmp 33) (.tmp 34)⟩,
          ⟨none, .none, true, 0, .store 3 (.tmp 49) (.tmp 44)⟩,
          ⟨some 50, .none, true, 0, .indexAddr 22 (.tmp 35) (.tmp 38)⟩,
          ⟨none, .none, true, 0, .store 3 (.tmp 50) (.tmp 48)⟩])
      (.keep [0, 6, 7, 10]
      (.region [⟨some 51, .none, true, 22, .move (.tmp 0)⟩,
        ⟨some 52, .none, true, 3, .move (.tmp 7)⟩,
        ⟨some 53, .none, true, 3, .move (.tmp 10)⟩,
        ⟨some 54, .none, true, 3, .move (.tmp 6)⟩,
        ⟨some 55, .none, true, 0, .call { callee := .value (.func 51), args := #[.tmp 51, .tmp 52, .tmp 53, .tmp 54], argTypes := #[22, 3, 3, 3] }⟩]))))
  (.keep [0, 6, 7, 10]
  (.region [⟨some 31, .none, true, 3, .move (.tmp 10)⟩,
    ⟨some 32, .none, true, 3, .binOp .sub 3 (.tmp 31) (.const (.int .i64 1)) 3⟩,
    ⟨some 10, .none, true, 3, .assign (.tmp 32)⟩]))))
def rc_slices_heapSortOrdered_int : RCode :=
  (.seq
    (.region [⟨some 11, .none, true, 3, .move (.tmp 1)⟩,
      ⟨some 6, .none, true, 3, .assign (.tmp 11)⟩])
  (.keep [0, 1, 2, 6]
  (.seq
    (.region [⟨some 7, .none, true, 3, .assign (.const (.int .i64 0))⟩])
  (.keep [0, 1, 2, 6, 7]
  (.seq
    (.region [⟨some 12, .none, true, 3, .move (.tmp 2)⟩,
      ⟨some 13, .none, true, 3, .move (.tmp 1)⟩,
      ⟨some 14, .none, true, 3, .binOp .sub 3 (.tmp 12) (.tmp 13) 3⟩,
      ⟨some 8, .none, true, 3, .assign (.tmp 14)⟩])
  (.keep [0, 6, 7, 8]
  (.seq
    (.seq
      (.region [⟨some 15, .none, true, 3, .move (.tmp 8)⟩,
        ⟨some 16, .none, true, 3, .binOp .sub 3 (.tmp 15) (.const (.int .i64 1)) 3⟩,
        ⟨some 17, .none, true, 3, .binOp .quo 3 (.tmp 16) (.const (.int .i64 2)) 3⟩,
        ⟨some 9, .none, true, 3, .assign (.tmp 17)⟩])
    (.keep [0, 6, 7, 8, 9]
    (.block 0
      (.loop [0, 6, 7, 8, 9] rc_slices_heapSortOrdered_intl0))))
  (.seq
    (.region [⟨some 27, .none, true, 3, .move (.tmp 8)⟩,
      ⟨some 28, .none, true, 3, .binOp .sub 3 (.tmp 27) (.const (.int .i64 1)) 3⟩,
      ⟨some 10, .none, true, 3, .assign (.tmp 28)⟩])
  (.keep [0, 6, 7, 10]
  (.block 2
    (.loop [0, 6, 7, 10] rc_slices_heapSortOrdered_intl1)))))))))))
theorem t_slices_heapSortOrdered_int : FnT Try.prog f_slices_heapSortOrdered_int rc_slices_heapSortOrdered_int [] 3 := ⟨⟨[], Try.f41, _, Try.func41, rfl, by kernel_rfl, by kernel_rfl, by kernel_rfl, rfl, by decide⟩, by kernel_rfl⟩
/-- slices.breakPatternsOrdered[int] -/
abbrev f_slices_breakPatternsOrdered_int : FuncId := 42
def rc_slices_breakPatternsOrdered_intl0 : RCode :=
  (.seq
    (.seq
      (.region [⟨some 26, .none, true, 3, .move (.tmp 9)⟩,
        ⟨some 27, .none, true, 3, .move (.tmp 1)⟩,
        ⟨some 28, .none, true, 3, .move (.tmp 6)⟩,
        ⟨some 29, .none, true, 3, .binOp .quo 3 (.tmp 28) (.const (.int .i64 4)) 3⟩,
        ⟨some 30, .none, true, 3, .binOp .mul 3 (.tmp 29) (.const (.int .i64 2)) 3⟩,
        ⟨some 31, .none, true, 3, .binOp .add 3 (.tmp 27) (.tmp 30) 3⟩,
        ⟨some 32, .none, true, 3, .binOp .add 3 (.tmp 31) (.const (.int .i64 1)) 3⟩,
        ⟨some 33, .none, true, 4, .binOp .leq 3 (.tmp 26) (.tmp 32) 3⟩])
    (.keep [0, 1, 6, 7, 8, 9, 33]
    (.cond (.tmp 33)
      .skip
      (.exit 0))))
  (.seq
    (.block 1
      (.seq
        (.region [⟨some 36, .none, true, 66, .call { callee := .value (.func 53), args := #[.tmp 7], argTypes := #[67] }⟩,
          ⟨some 37, .none, true, 54, .move (.tmp 8)⟩,
          ⟨some 38, .none, true, 54, .binOp .sub 54 (.tmp 37) (.const (.int .u64 1)) 54⟩,
          ⟨some 39, .none, true, 54, .binOp .and 54 (.tmp 36) (.tmp 38) 54⟩,
          ⟨some 40, .none, true, 3, .convert 54 3 (.tmp 39)⟩,
          ⟨some 10, .none, true, 3, .assign (.tmp 40)⟩])
      (.keep [0, 1, 6, 7, 8, 9, 10]
      (.seq
        (.seq
          (.region [⟨some 41, .none, true, 3, .move (.tmp 10)⟩,
            ⟨some 42, .none, true, 3, .move (.tmp 6)⟩,
            ⟨some 43, .none, true, 4, .binOp .geq 3 (.tmp 41) (.tmp 42) 3⟩])
        (.keep [0, 1, 6, 7, 8, 9, 10, 43]
        (.cond (.tmp 43)
          (.region [⟨some 44, .none, true, 3, .move (.tmp 10)⟩,
            ⟨some 45, .none, true, 3, .move (.tmp 6)⟩,
            ⟨some 46, .none, true, 3, .binOp .sub 3 (.tmp 44) (.tmp 45) 3⟩,
            ⟨some 10, .none, true, 3, .assign (.tmp 46)⟩])
          .skip)))
      (.region [⟨some 47, .none, false, 22, .move (.tmp 0)⟩,
        ⟨some 48, .none, false, 3, .move (.tmp 9)⟩,
        ⟨some 49, .none, false, 22, .move (.tmp 0)⟩,
        ⟨some 50, .none, false, 3, .move (.tmp 1)⟩,
        ⟨some 51, .none, false, 3, .move (.tmp 10)⟩,
        ⟨some 52, .none, false, 3, .binOp .add 3 (.tmp 50) (.tmp 51) 3⟩,
        ⟨some 53, .none, false, 22, .move (.tmp 0)⟩,
        ⟨some 54, .none, false, 3, .move (.tmp 1)⟩,
        ⟨some 55, .none, false, 3, .move (.tmp 10)⟩,
        ⟨some 56, .none, false, 3, .binOp .add 3 (.tmp 54) (.tmp 55) 3⟩,
        ⟨some 57, .none, false, 0, .indexAddr 22 (.tmp 53) (.tmp 56)⟩,
        ⟨some 58, .none, false, 3, .load 3 (.tmp 57)⟩,
        ⟨some 59, .none, false, 22, .move (.tmp 0)⟩,
        ⟨some 60, .none, false, 3, .move (.tmp 9)⟩,
        ⟨some 61, .none, false, 0, .indexAddr 22 (.tmp 59) (.tmp 60)⟩,
        ⟨some 62, .none, false, 3, .load 3 (.tmp 61)⟩,
        ⟨some 63, .none, true, 0, .indexAddr 22 (.tmp 47) (.tmp 48)⟩,
        ⟨none, .none, true, 0, .store 3 (.tmp 63) (.tmp 58)⟩,
        ⟨some 64, .none, true, 0, .indexAddr 22 (.tmp 49) (.tmp 52)⟩,
        ⟨none, .none, true, 0, .store 3 (.tmp 64) (.tmp 62)⟩])))))
  (.keep [0, 1, 6, 7, 8, 9]
  (.region [⟨some 34, .none, true, 3, .move (.tmp 9)⟩,
    ⟨some 35, .none, true, 3, .binOp .add 3 (.tmp 34) (.const (.int .i64 1)) 3⟩,
    ⟨some 9, .none, true, 3, .assign (.tmp 35)⟩]))))
def rc_slices_breakPatternsOrdered_int : RCode :=
  (.seq
    (.region [⟨some 11, .none, true, 3, .move (.tmp 2)⟩,
      ⟨some 12, .none, true, 3, .move (.tmp 1)⟩,
      ⟨some 13, .none, true, 3, .binOp .sub 3 (.tmp 11) (.tmp 12) 3⟩,
      ⟨some 6, .none, true, 3, .assign (.tmp 13)⟩])
  (.keep [0, 1, 6]
  (.seq
    (.region [⟨some 14, .none, true, 3, .move (.tmp 6)⟩,
      ⟨some 15, .none, true, 4, .binOp .geq 3 (.tmp 14) (.const (.int .i64 8)) 3⟩])
  (.keep [0, 1, 6, 15]
  (.cond (.tmp 15)
    (.seq
      (.region [⟨some 16, .none, true, 3, .move (.tmp 6)⟩,
        ⟨some 17, .none, true, 67, .convert 3 67 (.tmp 16)⟩,
        ⟨some 7, .none, true, 0, .alloc 67⟩,
        ⟨none, .none, true, 0, .store 67 (.tmp 7) (.tmp 17)⟩])
    (.keep [0, 1, 6, 7]
    (.seq
      (.region [⟨some 18, .none, true, 3, .move (.tmp 6)⟩,
        ⟨some 19, .none, true, 54, .call { callee := .value (.func 52), args := #[.tmp 18], argTypes := #[3] }⟩,
        ⟨some 8, .none, true, 54, .assign (.tmp 19)⟩])
    (.keep [0, 1, 6, 7, 8]
    (.seq
      (.region [⟨some 20, .none, true, 3, .move (.tmp 1)⟩,
        ⟨some 21, .none, true, 3, .move (.tmp 6)⟩,
        ⟨some 22, .none, true, 3, .binOp .quo 3 (.tmp 21) (.const (.int .i64 4)) 3⟩,
        ⟨some 23, .none, true, 3, .binOp .mul 3 (.tmp 22) (.const (.int .i64 2)) 3⟩,
        ⟨some 24, .none, true, 3, .binOp .add 3 (.tmp 20) (.tmp 23) 3⟩,
        ⟨some 25, .none, true, 3, .binOp .sub 3 (.tmp 24) (.const (.int .i64 1)) 3⟩,
        ⟨some 9, .none, true, 3, .assign (.tmp 25)⟩])
    (.keep [0, 1, 6, 7, 8, 9]
    (.block 0
      (.loop [0, 1, 6, 7, 8, 9] rc_slices_breakPatternsOrdered_intl0))))))))
    .skip)))))
theorem t_slices_breakPatternsOrdered_int : FnT Try.prog f_slices_breakPatternsOrdered_int rc_slices_breakPatternsOrdered_int [] 3 := ⟨⟨[], Try.f42, _, Try.func42, rfl, by kernel_rfl, by kernel_rfl, by kernel_rfl, rfl, by decide⟩, by kernel_rfl⟩
/-- slices.choosePivotOrdered[int] -/
abbrev f_slices_choosePivotOrdered_int : FuncId := 43
def rc_slices_choosePivotOrdered_int : RCode :=
  (.seq
    (.region [⟨some 6, .none, true, 3, .assign (.const (.int .i64 0))⟩,
      ⟨some 7, .none, true, 56, .assign (.const (.int .i64 0))⟩])
  (.keep [0, 1, 2]
  (.seq
    (.region [⟨some 13, .none, true, 3, .move (.tmp 2)⟩,
      ⟨some 14, .none, true, 3, .move (.tmp 1)⟩,
      ⟨some 15, .none, true, 3, .binOp .sub 3 (.tmp 13) (.tmp 14) 3⟩,
      ⟨some 8, .none, true, 3, .assign (.tmp 15)⟩])
  (.keep [0, 1, 8]
  (.seq
    (.region [⟨some 9, .none, true, 0, .alloc 3⟩])
  (.keep [0, 1, 8, 9]
  (.seq
    (.region [⟨some 16, .none, true, 3, .move (.tmp 1)⟩,
      ⟨some 17, .none, true, 3, .move (.tmp 8)⟩,
      ⟨some 18, .none, true, 3, .binOp .quo 3 (.tmp 17) (.const (.int .i64 4)) 3⟩,
      ⟨some 19, .none, true, 3, .binOp .mul 3 (.tmp 18) (.const (.int .i64 1)) 3⟩,
      ⟨some 20, .none, true, 3, .binOp .add 3 (.tmp 16) (.tmp 19) 3⟩,
      ⟨some 10, .none, true, 3, .assign (.tmp 20)⟩])
  (.keep [0, 1, 8, 9, 10]
  (.seq
    (.region [⟨some 21, .none, true, 3, .move (.tmp 1)⟩,
      ⟨some 22, .none, true, 3, .move (.tmp 8)⟩,
      ⟨some 23, .none, true, 3, .binOp .quo 3 (.tmp 22) (.const (.int .i64 4)) 3⟩,
      ⟨some 24, .none, true, 3, .binOp .mul 3 (.tmp 23) (.const (.int .i64 2)) 3⟩,
      ⟨some 25, .none, true, 3, .binOp .add 3 (.tmp 21) (.tmp 24) 3⟩,
      ⟨some 11, .none, true, 3, .assign (.tmp 25)⟩])
  (.keep [0, 1, 8, 9, 10, 11]
  (.seq
    (.region [⟨some 26, .none, true, 3, .move (.tmp 1)⟩,
      ⟨some 27, .none, true, 3, .move (.tmp 8)⟩,
      ⟨some 28, .none, true, 3, .binOp .quo 3 (.tmp 27) (.const (.int .i64 4)) 3⟩,
      ⟨some 29, .none, true, 3, .binOp .mul 3 (.tmp 28) (.const (.int .i64 3)) 3⟩,
      ⟨some 30, .none, true, 3, .binOp .add 3 (.tmp 26) (.tmp 29) 3⟩,
      ⟨some 12, .none, true, 3, .assign (.tmp 30)⟩])
  (.keep [0, 8, 9, 10, 11, 12]
  (.seq
    (.seq
      (.region [⟨some 31, .none, true, 3, .move (.tmp 8)⟩,
        ⟨some 32, .none, true, 4, .binOp .geq 3 (.tmp 31) (.const (.int .i64 8)) 3⟩])
    (.keep [0, 8, 9, 10, 11, 12, 32]
    (.cond (.tmp 32)
      (.seq
        (.seq
          (.region [⟨some 33, .none, true, 3, .move (.tmp 8)⟩,
            ⟨some 34, .none, true, 4, .binOp .geq 3 (.tmp 33) (.const (.int .i64 50)) 3⟩])
        (.keep [0, 9, 10, 11, 12, 34]
        (.cond (.tmp 34)
          (.seq
            (.region [⟨some 35, .none, true, 22, .move (.tmp 0)⟩,
              ⟨some 36, .none, true, 3, .move (.tmp 10)⟩,
              ⟨some 37, .none, true, 3, .call { callee := .value (.func 54), args := #[.tmp 35, .tmp 36, .tmp 9], argTypes := #[22, 3, 71] }⟩,
              ⟨some 10, .none, true, 3, .assign (.tmp 37)⟩])
          (.keep [0, 9, 10, 11, 12]
          (.seq
            (.region [⟨some 38, .none, true, 22, .move (.tmp 0)⟩,
              ⟨some 39, .none, true, 3, .move (.tmp 11)⟩,
              ⟨some 40, .none, true, 3, .call { callee := .value (.func 54), args := #[.tmp 38, .tmp 39, .tmp 9], argTypes := #[22, 3, 71] }⟩,
              ⟨some 11, .none, true, 3, .assign (.tmp 40)⟩])
          (.keep [0, 9, 10, 11, 12]
          (.region [⟨some 41, .none, true, 22, .move (.tmp 0)⟩,
            ⟨some 42, .none, true, 3, .move (.tmp 12)⟩,
            ⟨some 43, .none, true, 3, .call { callee := .value (.func 54), args := #[.tmp 41, .tmp 42, .tmp 9], argTypes := #[22, 3, 71] }⟩,
            ⟨some 12, .none, true, 3, .assign (.tmp 43)⟩])))))
          .skip)))
      (.region [⟨some 44, .none, true, 22, .move (.tmp 0)⟩,
        ⟨some 45, .none, true, 3, .move (.tmp 10)⟩,
        ⟨some 46, .none, true, 3, .move (.tmp 11)⟩,
        ⟨some 47, .none, true, 3, .move (.tmp 12)⟩,
        ⟨some 48, .none, true, 3, .call { callee := .value (.func 55), args := #[.tmp 44, .tmp 45, .tmp 46, .tmp 47, .tmp 9], argTypes := #[22, 3, 3, 3, 71] }⟩,
        ⟨some 11, .none, true, 3, .assign (.tmp 48)⟩]))
      .skip)))
  (.seq
    (.region [⟨some 49, .none, true, 3, .load 3 (.tmp 9)⟩])
  (.keep [11, 49]
  (.block 0
    (.seq
      (.region [⟨some 52, .none, true, 4, .binOp .eql 3 (.tmp 49) (.const (.int .i64 0)) 3⟩,
        ⟨some 51, .none, true, 4, .assign (.tmp 52)⟩])
    (.keep [11, 49, 51]
    (.cond (.tmp 51)
      (.seq
        (.region [⟨some 53, .none, true, 3, .move (.tmp 11)⟩,
          ⟨some 6, .none, true, 3, .assign (.tmp 53)⟩,
          ⟨some 7, .none, true, 56, .assign (.const (.int .i64 1))⟩])
      .ret)
      (.seq
        (.region [⟨some 55, .none, true, 4, .binOp .eql 3 (.tmp 49) (.const (.int .i64 12)) 3⟩,
          ⟨some 54, .none, true, 4, .assign (.tmp 55)⟩])
      (.keep [11, 54]
      (.cond (.tmp 54)
        (.seq
          (.region [⟨some 56, .none, true, 3, .move (.tmp 11)⟩,
            ⟨some 6, .none, true, 3, .assign (.tmp 56)⟩,
            ⟨some 7, .none, true, 56, .assign (.const (.int .i64 2))⟩])
        .ret)
        (.seq
          (.region [⟨some 50, .none, true, 3, .move (.tmp 11)⟩,
            ⟨some 6, .none, true, 3, .assign (.tmp 50)⟩,
            ⟨some 7, .none, true, 56, .assign (.const (.int .i64 0))⟩])
        .ret)))))))))))))))))))))))
theorem t_slices_choosePivotOrdered_int : FnT Try.prog f_slices_choosePivotOrdered_int rc_slices_choosePivotOrdered_int [.tmp 6, .tmp 7] 3 := ⟨⟨[], Try.f43, _, Try.func43, rfl, by kernel_rfl, by kernel_rfl, by kernel_rfl, rfl, by decide⟩, by kernel_rfl⟩
/-- slices.reverseRangeOrdered[int] -/
abbrev f_slices_reverseRangeOrdered_int : FuncId := 44
def rc_slices_reverseRangeOrdered_intl0 : RCode :=
  (.seq
    (.seq
      (.region [⟨some 11, .none, true, 3, .move (.tmp 6)⟩,
        ⟨some 12, .none, true, 3, .move (.tmp 7)⟩,
        ⟨some 13, .none, true, 4, .binOp .lss 3 (.tmp 11) (.tmp 12) 3⟩])
    (.keep [0, 6, 7, 13]
    (.cond (.tmp 13)
      .skip
      (.exit 0))))
  (.block 1
    (.seq
      (.region [⟨some 14, .none, false, 22, .move (.tmp 0)⟩,
        ⟨some 15, .none, false, 3, .move (.tmp 6)⟩,
        ⟨some 16, .none, false, 22, .move (.tmp 0)⟩,
        ⟨some 17, .none, false, 3, .move (.tmp 7)⟩,
        ⟨some 18, .none, false, 22, .move (.tmp 0)⟩,
        ⟨some 19, .none, false, 3, .move (.tmp 7)⟩,
        ⟨some 20, .none, false, 0, .indexAddr 22 (.tmp 18) (.tmp 19)⟩,
        ⟨some 21, .none, false, 3, .load 3 (.tmp 20)⟩,
        ⟨some 22, .none, false, 22, .move (.tmp 0)⟩,
        ⟨some 23, .none, false, 3, .move (.tmp 6)⟩,
        ⟨some 24, .none, false, 0, .indexAddr 22 (.tmp 22) (.tmp 23)⟩,
        ⟨some 25, .none, false, 3, .load 3 (.tmp 24)⟩,
        ⟨some 26, .none, true, 0, .indexAddr 22 (.tmp 14) (.tmp 15)⟩,
        ⟨none, .none, true, 0, .store 3 (.tmp 26) (.tmp 21)⟩,
        ⟨some 27, .none, true, 0, .indexAddr 22 (.tmp 16) (.tmp 17)⟩,
        ⟨none, .none, true, 0, .store 3 (.tmp 27) (.tmp 25)⟩])
    (.keep [0, 6, 7]
    (.seq
      (.region [⟨some 28, .none, true, 3, .move (.tmp 6)⟩,
        ⟨some 29, .none, true, 3, .binOp .add 3 (.tmp 28) (.const (.int .i64 1)) 3⟩,
        ⟨some 6, .none, true, 3, .assign (.tmp 29)⟩])
    (.keep [0, 6, 7]
    (.region [⟨some 30, .none, true, 3, .move (.tmp 7)⟩,
      ⟨some 31, .none, true, 3, .binOp .sub 3 (.tmp 30) (.const (.int .i64 1)) 3⟩,
      ⟨some 7, .none, true, 3, .assign (.tmp 31)⟩])))))))
def rc_slices_reverseRangeOrdered_int : RCode :=
  (.seq
    (.region [⟨some 8, .none, true, 3, .move (.tmp 1)⟩,
      ⟨some 6, .none, true, 3, .assign (.tmp 8)⟩])
  (.keep [0, 2, 6]
  (.seq
    (.region [⟨some 9, .none, true, 3, .move (.tmp 2)⟩,
      ⟨some 10, .none, true, 3, .binOp .sub 3 (.tmp 9) (.const (.int .i64 1)) 3⟩,
      ⟨some 7, .none, true, 3, .assign (.tmp 10)⟩])
  (.keep [0, 6, 7]
  (.block 0
    (.loop [0, 6, 7] rc_slices_reverseRangeOrdered_intl0))))))
theorem t_slices_reverseRangeOrdered_int : FnT Try.prog f_slices_reverseRangeOrdered_int rc_slices_reverseRangeOrdered_int [] 3 := ⟨⟨[], Try.f44, _, Try.func44, rfl, by kernel_rfl, by kernel_rfl, by kernel_rfl, rfl, by decide⟩, by kernel_rfl⟩
/-- slices.partialInsertionSortOrdered[int] -/
abbrev f_slices_partialInsertionSortOrdered_int : FuncId := 45
def rc_slices_partialInsertionSortOrdered_intl0 : RCode :=
  (.seq
    (.seq
      (.region [⟨some 17, .none, true, 3, .move (.tmp 7)⟩,
        ⟨some 18, .none, true, 3, .move (.tmp 2)⟩,
        ⟨some 19, .none, true, 4, .binOp .lss 3 (.tmp 17) (.tmp 18) 3⟩,
        ⟨some 20, .none, true, 4, .move (.tmp 19)⟩,
        ⟨some 21, .some 20 true, false, 22, .move (.tmp 0)⟩,
        ⟨some 22, .some 20 true, false, 3, .move (.tmp 7)⟩,
        ⟨some 23, .some 20 true, false, 0, .indexAddr 22 (.tmp 21) (.tmp 22)⟩,
        ⟨some 24, .some 20 true, false, 3, .load 3 (.tmp 23)⟩,
        ⟨some 25, .some 20 true, false, 22, .move (.tmp 0)⟩,
        ⟨some 26, .some 20 true, false, 3, .move (.tmp 7)⟩,
        ⟨some 27, .some 20 true, false, 3, .binOp .sub 3 (.tmp 26) (.const (.int .i64 1)) 3⟩,
        ⟨some 28, .some 20 true, false, 0, .indexAddr 22 (.tmp 25) (.tmp 27)⟩,
        ⟨some 29, .some 20 true, false, 3, .load 3 (.tmp 28)⟩,
        ⟨some 30, .some 20 true, true, 4, .call { callee := .value (.func 46), args := #[.tmp 24, .tmp 29], argTypes := #[3, 3] }⟩,
        ⟨some 31, .some 20 true, true, 4, .unOp .not 4 (.tmp 30)⟩,
        ⟨some 32, .none, true, 4, .pick (.tmp 20) (.tmp 31) (.const (.bool false))⟩])
    (.keep [0, 1, 2, 7, 8, 32]
    (.cond (.tmp 32)
      .skip
      (.exit 2))))
  (.block 3
    (.region [⟨some 33, .none, true, 3, .move (.tmp 7)⟩,
      ⟨some 34, .none, true, 3, .binOp .add 3 (.tmp 33) (.const (.int .i64 1)) 3⟩,
      ⟨some 7, .none, true, 3, .assign (.tmp 34)⟩])))
def rc_slices_partialInsertionSortOrdered_intl1 : RCode :=
  (.seq
    (.seq
      (.region [⟨some 64, .none, true, 3, .move (.tmp 9)⟩,
        ⟨some 65, .none, true, 4, .binOp .geq 3 (.tmp 64) (.const (.int .i64 1)) 3⟩])
    (.keep [0, 1, 2, 7, 8, 9, 65]
    (.cond (.tmp 65)
      .skip
      (.exit 4))))
  (.seq
    (.block 5
      (.seq
        (.seq
          (.region [⟨some 68, .none, false, 22, .move (.tmp 0)⟩,
            ⟨some 69, .none, false, 3, .move (.tmp 9)⟩,
            ⟨some 70, .none, false, 0, .indexAddr 22 (.tmp 68) (.tmp 69)⟩,
            ⟨some 71, .none, false, 3, .load 3 (.tmp 70)⟩,
            ⟨some 72, .none, false, 22, .move (.tmp 0)⟩,
            ⟨some 73, .none, false, 3, .move (.tmp 9)⟩,
            ⟨some 74, .none, false, 3, .binOp .sub 3 (.tmp 73) (.const (.int .i64 1)) 3⟩,
            ⟨some 75, .none, false, 0, .indexAddr 22 (.tmp 72) (.tmp 74)⟩,
            ⟨some 76, .none, false, 3, .load 3 (.tmp 75)⟩,
            ⟨some 77, .none, true, 4, .call { callee := .value (.func 46), args := #[.tmp 71, .tmp 76], argTypes := #[3, 3] }⟩,
            ⟨some 78, .none, true, 4, .unOp .not 4 (.tmp 77)⟩])
        (.keep [0, 1, 2, 7, 8, 9, 78]
        (.cond (.tmp 78)
          (.exit 4)
          .skip)))
      (.region [⟨some 79, .none, false, 22, .move (.tmp 0)⟩,
        ⟨some 80, .none, false, 3, .move (.tmp 9)⟩,
        ⟨some 81, .none, false, 22, .move (.tmp 0)⟩,
        ⟨some 82, .none, false, 3, .move (.tmp 9)⟩,
        ⟨some 83, .none, false, 3, .binOp .sub 3 (.tmp 82) (.const (.int .i64 1)) 3⟩,
        ⟨some 84, .none, false, 22, .move (.tmp 0)⟩,
        ⟨some 85, .none, false, 3, .move (.tmp 9)⟩,
        ⟨some 86, .none, false, 3, .binOp .sub 3 (.tmp 85) (.const (.int .i64 1)) 3⟩,
        ⟨some 87, .none, false, 0, .indexAddr 22 (.tmp 84) (.tmp 86)⟩,
        ⟨some 88, .none, false, 3, .load 3 (.tmp 87)⟩,
        ⟨some 89, .none, false, 22, .move (.tmp 0)⟩,
        ⟨some 90, .none, false, 3, .move (.tmp 9)⟩,
        ⟨some 91, .none, false, 0, .indexAddr 22 (.tmp 89) (.tmp 90)⟩,
        ⟨some 92, .none, false, 3, .load 3 (.tmp 91)⟩,
        ⟨some 93, .none, true, 0, .indexAddr 22 (.tmp 79) (.tmp 80)⟩,
        ⟨none, .none, true, 0, .store 3 (.tmp 93) (.tmp 88)⟩,
        ⟨some 94, .none, true, 0, .indexAddr 22 (.tmp 81) (.tmp 83)⟩,
        ⟨none, .none, true, 0, .store 3 (.tmp 94) (.tmp 92)⟩])))
  (.keep [0, 1, 2, 7, 8, 9]
  (.region [⟨some 66, .none, true, 3, .move (.tmp 9)⟩,
    ⟨some 67, .none, true, 3, .binOp .sub 3 (.tmp 66) (.const (.int .i64 1)) 3⟩,
    ⟨some 9, .none, true, 3, .assign (.tmp 67)⟩]))))
def rc_slices_partialInsertionSortOrdered_intl2 : RCode :=
  (.seq
    (.seq
      (.region [⟨some 101, .none, true, 3, .move (.tmp 10)⟩,
        ⟨some 102, .none, true, 3, .move (.tmp 2)⟩,
        ⟨some 103, .none, true, 4, .binOp .lss 3 (.tmp 101) (.tmp 102) 3⟩])
    (.keep [0, 1, 2, 7, 8, 10, 103]
    (.cond (.tmp 103)
      .skip
      (.exit 6))))
  (.seq
    (.block 7
      (.seq
        (.seq
          (.region [⟨some 106, .none, false, 22, .move (.tmp 0)⟩,
            ⟨some 107, .none, false, 3, .move (.tmp 10)⟩,
            ⟨some 108, .none, false, 0, .indexAddr 22 (.tmp 106) (.tmp 107)⟩,
            ⟨some 109, .none, false, 3, .load 3 (.tmp 108)⟩,
            ⟨some 110, .none, false, 22, .move (.tmp 0)⟩,
            ⟨some 111, .none, false, 3, .move (.tmp 10)⟩,
            ⟨some 112, .none, false, 3, .binOp .sub 3 (.tmp 111) (.const (.int .i64 1)) 3⟩,
            ⟨some 113, .none, false, 0, .indexAddr 22 (.tmp 110) (.tmp 112)⟩,
            ⟨some 114, .none, false, 3, .load 3 (.tmp 113)⟩,
            ⟨some 115, .none, true, 4, .call { callee := .value (.func 46), args := #[.tmp 109, .tmp 114], argTypes := #[3, 3] }⟩,
            ⟨some 116, .none, true, 4, .unOp .not 4 (.tmp 115)⟩])
        (.keep [0, 1, 2, 7, 8, 10, 116]
        (.cond (.tmp 116)
          (.exit 6)
          .skip)))
      (.region [⟨some 117, .none, false, 22, .move (.tmp 0)⟩,
        ⟨some 118, .none, false, 3, .move (.tmp 10)⟩,
        ⟨some 119, .none, false, 22, .move (.tmp 0)⟩,
        ⟨some 120, .none, false, 3, .move (.tmp 10)⟩,
        ⟨some 121, .none, false, 3, .binOp .sub 3 (.tmp 120) (.const (.int .i64 1)) 3⟩,
        ⟨some 122, .none, false, 22, .move (.tmp 0)⟩,
        ⟨some 123, .none, false, 3, .move (.tmp 10)⟩,
        ⟨some 124, .none, false, 3, .binOp .sub 3 (.tmp 123) (.const (.int .i64 1)) 3⟩,
        ⟨some 125, .none, false, 0, .indexAddr 22 (.tmp 122) (.tmp 124)⟩,
        ⟨some 126, .none, false, 3, .load 3 (.tmp 125)⟩,
        ⟨some 127, .none, false, 22, .move (.tmp 0)⟩,
        ⟨some 128, .none, false, 3, .move (.tmp 10)⟩,
        ⟨some 129, .none, false, 0, .indexAddr 22 (.tmp 127) (.tmp 128)⟩,
        ⟨some 130, .none, false, 3, .load 3 (.tmp 129)⟩,
        ⟨some 131, .none, true, 0, .indexAddr 22 (.tmp 117) (.tmp 118)⟩,
        ⟨none, .none, true, 0, .store 3 (.tmp 131) (.tmp 126)⟩,
        ⟨some 132, .none, true, 0, .indexAddr 22 (.tmp 119) (.tmp 121)⟩,
        ⟨none, .none, true, 0, .store 3 (.tmp 132) (.tmp 130)⟩])))
  (.keep [0, 1, 2, 7, 8, 10]
  (.region [⟨some 104, .none, true, 3, .move (.tmp 10)⟩,
    ⟨some 105, .none, true, 3, .binOp .add 3 (.tmp 104) (.const (.int .i64 1)) 3⟩,
    ⟨some 10, .none, true, 3, .assign (.tmp 105)⟩]))))
def rc_slices_partialInsertionSortOrdered_intl3 : RCode :=
  (.seq
    (.seq
      (.region [⟨some 13, .none, true, 3, .move (.tmp 8)⟩,
        ⟨some 14, .none, true, 4, .binOp .lss 3 (.tmp 13) (.const (.int .i64 5)) 3⟩])
    (.keep [0, 1, 2, 7, 8, 14]
    (.cond (.tmp 14)
      .skip
      (.exit 0))))
  (.seq
    (.block 1
      (.seq
        (.block 2
          (.loop [0, 1, 2, 7, 8] rc_slices_partialInsertionSortOrdered_intl0))
      (.keep [0, 1, 2, 7, 8]
      (.seq
        (.seq
          (.region [⟨some 35, .none, true, 3, .move (.tmp 7)⟩,
            ⟨some 36, .none, true, 3, .move (.tmp 2)⟩,
            ⟨some 37, .none, true, 4, .binOp .eql 3 (.tmp 35) (.tmp 36) 3⟩])
        (.keep [0, 1, 2, 7, 8, 37]
        (.cond (.tmp 37)
          (.seq
            (.region [⟨some 6, .none, true, 4, .assign (.const (.bool true))⟩])
          .ret)
          .skip)))
      (.seq
        (.seq
          (.region [⟨some 38, .none, true, 3, .move (.tmp 2)⟩,
            ⟨some 39, .none, true, 3, .move (.tmp 1)⟩,
            ⟨some 40, .none, true, 3, .binOp .sub 3 (.tmp 38) (.tmp 39) 3⟩,
            ⟨some 41, .none, true, 4, .binOp .lss 3 (.tmp 40) (.const (.int .i64 50)) 3⟩])
        (.keep [0, 1, 2, 7, 8, 41]
        (.cond (.tmp 41)
          (.seq
            (.region [⟨some 6, .none, true, 4, .assign (.const (.bool false))⟩])
          .ret)
          .skip)))
      (.seq
        (.region [⟨some 42, .none, false, 22, .move (.tmp 0)⟩,
          ⟨some 43, .none, false, 3, .move (.tmp 7)⟩,
          ⟨some 44, .none, false, 22, .move (.tmp 0)⟩,
          ⟨some 45, .none, false, 3, .move (.tmp 7)⟩,
          ⟨some 46, .none, false, 3, .binOp .sub 3 (.tmp 45) (.const (.int .i64 1)) 3⟩,
          ⟨some 47, .none, false, 22, .move (.tmp 0)⟩,
          ⟨some 48, .none, false, 3, .move (.tmp 7)⟩,
          ⟨some 49, .none, false, 3, .binOp .sub 3 (.tmp 48) (.const (.int .i64 1)) 3⟩,
          ⟨some 50, .none, false, 0, .indexAddr 22 (.tmp 47) (.tmp 49)⟩,
          ⟨some 51, .none, false, 3, .load 3 (.tmp 50)⟩,
          ⟨some 52, .none, false, 22, .move (.tmp 0)⟩,
          ⟨some 53, .none, false, 3, .move (.tmp 7)⟩,
          ⟨some 54, .none, false, 0, .indexAddr 22 (.tmp 52) (.tmp 53)⟩,
          ⟨some 55, .none, false, 3, .load 3 (.tmp 54)⟩,
          ⟨some 56, .none, true, 0, .indexAddr 22 (.tmp 42) (.tmp 43)⟩,
          ⟨none, .none, true, 0, .store 3 (.tmp 56) (.tmp 51)⟩,
          ⟨some 57, .none, true, 0, .indexAddr 22 (.tmp 44) (.tmp 46)⟩,
          ⟨none, .none, true, 0, .store 3 (.tmp 57) (.tmp 55)⟩])
      (.keep [0, 1, 2, 7, 8]
      (.seq
        (.seq
          (.region [⟨some 58, .none, true, 3, .move (.tmp 7)⟩,
            ⟨some 59, .none, true, 3, .move (.tmp 1)⟩,
            ⟨some 60, .none, true, 3, .binOp .sub 3 (.tmp 58) (.tmp 59) 3⟩,
            ⟨some 61, .none, true, 4, .binOp .geq 3 (.tmp 60) (.const (.int .i64 2)) 3⟩])
        (.keep [0, 1, 2, 7, 8, 61]
        (.cond (.tmp 61)
          (.seq
            (.region [⟨some 62, .none, true, 3, .move (.tmp 7)⟩,
              ⟨some 63, .none, true, 3, .binOp .sub 3 (.tmp 62) (.const (.int .i64 1)) 3⟩,
              ⟨some 9, .none, true, 3, .assign (.tmp 63)⟩])
          (.keep [0, 1, 2, 7, 8, 9]
          (.block 4
            (.loop [0, 1, 2, 7, 8, 9] rc_slices_partialInsertionSortOrdered_intl1))))
          .skip)))
      (.seq
        (.region [⟨some 95, .none, true, 3, .move (.tmp 2)⟩,
          ⟨some 96, .none, true, 3, .move (.tmp 7)⟩,
          ⟨some 97, .none, true, 3, .binOp .sub 3 (.tmp 95) (.tmp 96) 3⟩,
          ⟨some 98, .none, true, 4, .binOp .geq 3 (.tmp 97) (.const (.int .i64 2)) 3⟩])
      (.keep [0, 1, 2, 7, 8, 98]
      (.cond (.tmp 98)
        (.seq
          (.region [⟨some 99, .none, true, 3, .move (.tmp 7)⟩,
            ⟨some 100, .none, true, 3, .binOp .add 3 (.tmp 99) (.const (.int .i64 1)) 3⟩,
            ⟨some 10, .none, true, 3, .assign (.tmp 100)⟩])
        (.keep [0, 1, 2, 7, 8, 10]
        (.block 6
          (.loop [0, 1, 2, 7, 8, 10] rc_slices_partialInsertionSortOrdered_intl2))))
        .skip)))))))))))
  (.keep [0, 1, 2, 7, 8]
  (.region [⟨some 15, .none, true, 3, .move (.tmp 8)⟩,
    ⟨some 16, .none, true, 3, .binOp .add 3 (.tmp 15) (.const (.int .i64 1)) 3⟩,
    ⟨some 8, .none, true, 3, .assign (.tmp 16)⟩]))))
def rc_slices_partialInsertionSortOrdered_int : RCode :=
  (.seq
    (.region [⟨some 6, .none, true, 4, .assign (.const (.bool false))⟩])
  (.keep [0, 1, 2]
  (.seq
    (.region [⟨some 11, .none, true, 3, .move (.tmp 1)⟩,
      ⟨some 12, .none, true, 3, .binOp .add 3 (.tmp 11) (.const (.int .i64 1)) 3⟩,
      ⟨some 7, .none, true, 3, .assign (.tmp 12)⟩])
  (.keep [0, 1, 2, 7]
  (.seq
    (.seq
      (.region [⟨some 8, .none, true, 3, .assign (.const (.int .i64 0))⟩])
    (.keep [0, 1, 2, 7, 8]
    (.block 0
      (.loop [0, 1, 2, 7, 8] rc_slices_partialInsertionSortOrdered_intl3))))
  (.seq
    (.region [⟨some 6, .none, true, 4, .assign (.const (.bool false))⟩])
  .ret))))))
theorem t_slices_partialInsertionSortOrdered_int : FnT Try.prog f_slices_partialInsertionSortOrdered_int rc_slices_partialInsertionSortOrdered_int [.tmp 6] 3 := ⟨⟨[], Try.f45, _, Try.func45, rfl, by kernel_rfl, by kernel_rfl, by kernel_rfl, rfl, by decide⟩, by kernel_rfl⟩
/-- cmp.Less[int] -/
abbrev f_cmp_Less_int : FuncId := 46
def rc_cmp_Less_int : RCode :=
  (.seq
    (.region [⟨some 4, .none, true, 4, .assign (.const (.bool false))⟩])
  (.keep [0, 1]
  (.seq
    (.region [⟨some 5, .none, true, 3, .move (.tmp 0)⟩,
      ⟨some 6, .none, true, 4, .call { callee := .value (.func 56), args := #[.tmp 5], argTypes := #[3] }⟩,
      ⟨some 7, .none, true, 4, .move (.tmp 6)⟩,
      ⟨some 8, .some 7 true, true, 3, .move (.tmp 1)⟩,
      ⟨some 9, .some 7 true, true, 4, .call { callee := .value (.func 56), args := #[.tmp 8], argTypes := #[3] }⟩,
      ⟨some 10, .some 7 true, true, 4, .unOp .not 4 (.tmp 9)⟩,
      ⟨some 11, .none, true, 4, .pick (.tmp 7) (.tmp 10) (.const (.bool false))⟩,
      ⟨some 12, .none, true, 4, .move (.tmp 11)⟩,
      ⟨some 13, .some 12 false, true, 3, .move (.tmp 0)⟩,
      ⟨some 14, .some 12 false, true, 3, .move (.tmp 1)⟩,
      ⟨some 15, .some 12 false, true, 4, .binOp .lss 3 (.tmp 13) (.tmp 14) 3⟩,
      ⟨some 16, .none, true, 4, .pick (.tmp 12) (.const (.bool true)) (.tmp 15)⟩,
      ⟨some 4, .none, true, 4, .assign (.tmp 16)⟩])
  .ret)))
theorem t_cmp_Less_int : FnT Try.prog f_cmp_Less_int rc_cmp_Less_int [.tmp 4] 2 := ⟨⟨[], Try.f46, _, Try.func46, rfl, by kernel_rfl, by kernel_rfl, by kernel_rfl, rfl, by decide⟩, by kernel_rfl⟩
/-- slices.partitionEqualOrdered[int] -/
abbrev f_slices_partitionEqualOrdered_int : FuncId := 47
def rc_slices_partitionEqualOrdered_intl0 : RCode :=
  (.seq
    (.seq
      (.region [⟨some 29, .none, true, 3, .move (.tmp 9)⟩,
        ⟨some 30, .none, true, 3, .move (.tmp 10)⟩,
        ⟨some 31, .none, true, 4, .binOp .leq 3 (.tmp 29) (.tmp 30) 3⟩,
        ⟨some 32, .none, true, 4, .move (.tmp 31)⟩,
        ⟨some 33, .some 32 true, false, 22, .move (.tmp 0)⟩,
        ⟨some 34, .some 32 true, false, 3, .move (.tmp 1)⟩,
        ⟨some 35, .some 32 true, false, 0, .indexAddr 22 (.tmp 33) (.tmp 34)⟩,
        ⟨some 36, .some 32 true, false, 3, .load 3 (.tmp 35)⟩,
        ⟨some 37, .some 32 true, false, 22, .move (.tmp 0)⟩,
        ⟨some 38, .some 32 true, false, 3, .move (.tmp 9)⟩,
        ⟨some 39, .some 32 true, false, 0, .indexAddr 22 (.tmp 37) (.tmp 38)⟩,
        ⟨some 40, .some 32 true, false, 3, .load 3 (.tmp 39)⟩,
        ⟨some 41, .some 32 true, true, 4, .call { callee := .value (.func 46), args := #[.tmp 36, .tmp 40], argTypes := #[3, 3] }⟩,
        ⟨some 42, .some 32 true, true, 4, .unOp .not 4 (.tmp 41)⟩,
        ⟨some 43, .none, true, 4, .pick (.tmp 32) (.tmp 42) (.const (.bool false))⟩])
    (.keep [0, 1, 9, 10, 43]
    (.cond (.tmp 43)
      .skip
      (.exit 2))))
  (.block 3
    (.region [⟨some 44, .none, true, 3, .move (.tmp 9)⟩,
      ⟨some 45, .none, true, 3, .binOp .add 3 (.tmp 44) (.const (.int .i64 1)) 3⟩,
      ⟨some 9, .none, true, 3, .assign (.tmp 45)⟩])))
def rc_slices_partitionEqualOrdered_intl1 : RCode :=
  (.seq
    (.seq
      (.region [⟨some 46, .none, true, 3, .move (.tmp 9)⟩,
        ⟨some 47, .none, true, 3, .move (.tmp 10)⟩,
        ⟨some 48, .none, true, 4, .binOp .leq 3 (.tmp 46) (.tmp 47) 3⟩,
        ⟨some 49, .none, true, 4, .move (.tmp 48)⟩,
        ⟨some 50, .some 49 true, false, 22, .move (.tmp 0)⟩,
        ⟨some 51, .some 49 true, false, 3, .move (.tmp 1)⟩,
        ⟨some 52, .some 49 true, false, 0, .indexAddr 22 (.tmp 50) (.tmp 51)⟩,
        ⟨some 53, .some 49 true, false, 3, .load 3 (.tmp 52)⟩,
        ⟨some 54, .some 49 true, false, 22, .move (.tmp 0)⟩,
        ⟨some 55, .some 49 true, false, 3, .move (.tmp 10)⟩,
        ⟨some 56, .some 49 true, false, 0, .indexAddr 22 (.tmp 54) (.tmp 55)⟩,
        ⟨some 57, .some 49 true, false, 3, .load 3 (.tmp 56)⟩,
        ⟨some 58, .some 49 true, true, 4, .call { callee := .value (.func 46), args := #[.tmp 53, .tmp 57], argTypes := #[3, 3] }⟩,
        ⟨some 59, .none, true, 4, .pick (.tmp 49) (.tmp 58) (.const (.bool false))⟩])
    (.keep [0, 1, 9, 10, 59]
    (.cond (.tmp 59)
      .skip
      (.exit 4))))
  (.block 5
    (.region [⟨some 60, .none, true, 3, .move (.tmp 10)⟩,
      ⟨some 61, .none, true, 3, .binOp .sub 3 (.tmp 60) (.const (.int .i64 1)) 3⟩,
      ⟨some 10, .none, true, 3, .assign (.tmp 61)⟩])))
def rc_slices_partitionEqualOrdered_intl2 : RCode :=
  (.block 1
    (.seq
      (.block 2
        (.loop [0, 1, 9, 10] rc_slices_partitionEqualOrdered_intl0))
    (.keep [0, 1, 9, 10]
    (.seq
      (.block 4
        (.loop [0, 1, 9, 10] rc_slices_partitionEqualOrdered_intl1))
    (.keep [0, 1, 9, 10]
    (.seq
      (.seq
        (.region [⟨some 62, .none, true, 3, .move (.tmp 9)⟩,
          ⟨some 63, .none, true, 3, .move (.tmp 10)⟩,
          ⟨some 64, .none, true, 4, .binOp .gtr 3 (.tmp 62) (.tmp 63) 3⟩])
      (.keep [0, 1, 9, 10, 64]
      (.cond (.tmp 64)
        (.exit 0)
        .skip)))
    (.seq
      (.region [⟨some 65, .none, false, 22, .move (.tmp 0)⟩,
        ⟨some 66, .none, false, 3, .move (.tmp 9)⟩,
        ⟨some 67, .none, false, 22, .move (.tmp 0)⟩,
        ⟨some 68, .none, false, 3, .move (.tmp 10)⟩,
        ⟨some 69, .none, false, 22, .move (.tmp 0)⟩,
        ⟨some 70, .none, false, 3, .move (.tmp 10)⟩,
        ⟨some 71, .none, false, 0, .indexAddr 22 (.tmp 69) (.tmp 70)⟩,
        ⟨some 72, .none, false, 3, .load 3 (.tmp 71)⟩,
        ⟨some 73, .none, false, 22, .move (.tmp 0)⟩,
        ⟨some 74, .none, false, 3, .move (.tmp 9)⟩,
        ⟨some 75, .none, false, 0, .indexAddr 22 (.tmp 73) (.tmp 74)⟩,
        ⟨some 76, .none, false, 3, .load 3 (.tmp 75)⟩,
        ⟨some 77, .none, true, 0, .indexAddr 22 (.tmp 65) (.tmp 66)⟩,
        ⟨none, .none, true, 0, .store 3 (.tmp 77) (.tmp 72)⟩,
        ⟨some 78, .none, true, 0, .indexAddr 22 (.tmp 67) (.tmp 68)⟩,
        ⟨none, .none, true, 0, .store 3 (.tmp 78) (.tmp 76)⟩])
    (.keep [0, 1, 9, 10]
    (.seq
      (.region [⟨some 79, .none, true, 3, .move (.tmp 9)⟩,
        ⟨some 80, .none, true, 3, .binOp .add 3 (.tmp 79) (.const (.int .i64 1)) 3⟩,
        ⟨some 9, .none, true, 3, .assign (.tmp 80)⟩])
    (.keep [0, 1, 9, 10]
    (.region [⟨some 81, .none, true, 3, .move (.tmp 10)⟩,
      ⟨some 82, .none, true, 3, .binOp .sub 3 (.tmp 81) (.const (.int .i64 1)) 3⟩,
      ⟨some 10, .none, true, 3, .assign (.tmp 82)⟩])))))))))))
def rc_slices_partitionEqualOrdered_int : RCode :=
  (.seq
    (.region [⟨some 8, .none, true, 3, .assign (.const (.int .i64 0))⟩])
  (.keep [0, 1, 2, 3]
  (.seq
    (.region [⟨some 11, .none, false, 22, .move (.tmp 0)⟩,
      ⟨some 12, .none, false, 3, .move (.tmp 1)⟩,
      ⟨some 13, .none, false, 22, .move (.tmp 0)⟩,
      ⟨some 14, .none, false, 3, .move (.tmp 3)⟩,
      ⟨some 15, .none, false, 22, .move (.tmp 0)⟩,
      ⟨some 16, .none, false, 3, .move (.tmp 3)⟩,
      ⟨some 17, .none, false, 0, .indexAddr 22 (.tmp 15) (.tmp 16)⟩,
      ⟨some 18, .none, false, 3, .load 3 (.tmp 17)⟩,
      ⟨some 19, .none, false, 22, .move (.tmp 0)⟩,
      ⟨some 20, .none, false, 3, .move (.tmp 1)⟩,
      ⟨some 21, .none, false, 0, .indexAddr 22 (.tmp 19) (.tmp 20)⟩,
      ⟨some 22, .none, false, 3, .load 3 (.tmp 21)⟩,
      ⟨some 23, .none, true, 0, .indexAddr 22 (.tmp 11) (.tmp 12)⟩,
      ⟨none, .none, true, 0, .store 3 (.tmp 23) (.tmp 18)⟩,
      ⟨some 24, .none, true, 0, .indexAddr 22 (.tmp 13) (.tmp 14)⟩,
      ⟨none, .none, true, 0, .store 3 (.tmp 24) (.tmp 22)⟩])
  (.keep [0, 1, 2]
  (.seq
    (.region [⟨some 25, .none, true, 3, .move (.tmp 1)⟩,
      ⟨some 26, .none, true, 3, .binOp .add 3 (.tmp 25) (.const (.int .i64 1)) 3⟩,
      ⟨some 27, .none, true, 3, .move (.tmp 2)⟩,
      ⟨some 28, .none, true, 3, .binOp .sub 3 (.tmp 27) (.const (.int .i64 1)) 3⟩,
      ⟨some 9, .none, true, 3, .assign (.tmp 26)⟩,
      ⟨some 10, .none, true, 3, .assign (.tmp 28)⟩])
  (.keep [0, 1, 9, 10]
  (.seq
    (.block 0
      (.loop [0, 1, 9, 10] rc_slices_partitionEqualOrdered_intl2))
  (.keep [9]
  (.seq
    (.region [⟨some 83, .none, true, 3, .move (.tmp 9)⟩,
      ⟨some 8, .none, true, 3, .assign (.tmp 83)⟩])
  .ret)))))))))
theorem t_slices_partitionEqualOrdered_int : FnT Try.prog f_slices_partitionEqualOrdered_int rc_slices_partitionEqualOrdered_int [.tmp 8] 4 := ⟨⟨[], Try.f47, _, Try.func47, rfl, by kernel_rfl, by kernel_rfl, by kernel_rfl, rfl, by decide⟩, by kernel_rfl⟩
/-- slices.partitionOrdered[int] -/
abbrev f_slices_partitionOrdered_int : FuncId := 48
def rc_slices_partitionOrdered_intl0 : RCode :=
  (.seq
    (.seq
      (.region [⟨some 30, .none, true, 3, .move (.tmp 10)⟩,
        ⟨some 31, .none, true, 3, .move (.tmp 11)⟩,
        ⟨some 32, .none, true, 4, .binOp .leq 3 (.tmp 30) (.tmp 31) 3⟩,
        ⟨some 33, .none, true, 4, .move (.tmp 32)⟩,
        ⟨some 34, .some 33 true, false, 22, .move (.tmp 0)⟩,
        ⟨some 35, .some 33 true, false, 3, .move (.tmp 10)⟩,
        ⟨some 36, .some 33 true, false, 0, .indexAddr 22 (.tmp 34) (.tmp 35)⟩,
        ⟨some 37, .some 33 true, false, 3, .load 3 (.tmp 36)⟩,
        ⟨some 38, .some 33 true, false, 22, .move (.tmp 0)⟩,
        ⟨some 39, .some 33 true, false, 3, .move (.tmp 1)⟩,
        ⟨some 40, .some 33 true, false, 0, .indexAddr 22 (.tmp 38) (.tmp 39)⟩,
        ⟨some 41, .some 33 true, false, 3, .load 3 (.tmp 40)⟩,
        ⟨some 42, .some 33 true, true, 4, .call { callee := .value (.func 46), args := #[.tmp 37, .tmp 41], argTypes := #[3, 3] }⟩,
        ⟨some 43, .none, true, 4, .pick (.tmp 33) (.tmp 42) (.const (.bool false))⟩])
    (.keep [0, 1, 10, 11, 43]
    (.cond (.tmp 43)
      .skip
      (.exit 0))))
  (.block 1
    (.region [⟨some 44, .none, true, 3, .move (.tmp 10)⟩,
      ⟨some 45, .none, true, 3, .binOp .add 3 (.tmp 44) (.const (.int .i64 1)) 3⟩,
      ⟨some 10, .none, true, 3, .assign (.tmp 45)⟩])))
def rc_slices_partitionOrdered_intl1 : RCode :=
  (.seq
    (.seq
      (.region [⟨some 46, .none, true, 3, .move (.tmp 10)⟩,
        ⟨some 47, .none, true, 3, .move (.tmp 11)⟩,
        ⟨some 48, .none, true, 4, .binOp .leq 3 (.tmp 46) (.tmp 47) 3⟩,
        ⟨some 49, .none, true, 4, .move (.tmp 48)⟩,
        ⟨some 50, .some 49 true, false, 22, .move (.tmp 0)⟩,
        ⟨some 51, .some 49 true, false, 3, .move (.tmp 11)⟩,
        ⟨some 52, .some 49 true, false, 0, .indexAddr 22 (.tmp 50) (.tmp 51)⟩,
        ⟨some 53, .some 49 true, false, 3, .load 3 (.tmp 52)⟩,
        ⟨some 54, .some 49 true, false, 22, .move (.tmp 0)⟩,
        ⟨some 55, .some 49 true, false, 3, .move (.tmp 1)⟩,
        ⟨some 56, .some 49 true, false, 0, .indexAddr 22 (.tmp 54) (.tmp 55)⟩,
        ⟨some 57, .some 49 true, false, 3, .load 3 (.tmp 56)⟩,
        ⟨some 58, .some 49 true, true, 4, .call { callee := .value (.func 46), args := #[.tmp 53, .tmp 57], argTypes := #[3, 3] }⟩,
        ⟨some 59, .some 49 true, true, 4, .unOp .not 4 (.tmp 58)⟩,
        ⟨some 60, .none, true, 4, .pick (.tmp 49) (.tmp 59) (.const (.bool false))⟩])
    (.keep [0, 1, 10, 11, 60]
    (.cond (.tmp 60)
      .skip
      (.exit 2))))
  (.block 3
    (.region [⟨some 61, .none, true, 3, .move (.tmp 11)⟩,
      ⟨some 62, .none, true, 3, .binOp .sub 3 (.tmp 61) (.const (.int .i64 1)) 3⟩,
      ⟨some 11, .none, true, 3, .assign (.tmp 62)⟩])))
def rc_slices_partitionOrdered_intl2 : RCode :=
  (.seq
    (.seq
      (.region [⟨some 99, .none, true, 3, .move (.tmp 10)⟩,
        ⟨some 100, .none, true, 3, .move (.tmp 11)⟩,
        ⟨some 101, .none, true, 4, .binOp .leq 3 (.tmp 99) (.tmp 100) 3⟩,
        ⟨some 102, .none, true, 4, .move (.tmp 101)⟩,
        ⟨some 103, .some 102 true, false, 22, .move (.tmp 0)⟩,
        ⟨some 104, .some 102 true, false, 3, .move (.tmp 10)⟩,
        ⟨some 105, .some 102 true, false, 0, .indexAddr 22 (.tmp 103) (.tmp 104)⟩,
        ⟨some 106, .some 102 true, false, 3, .load 3 (.tmp 105)⟩,
        ⟨some 107, .some 102 true, false, 22, .move (.tmp 0)⟩,
        ⟨some 108, .some 102 true, false, 3, .move (.tmp 1)⟩,
        ⟨some 109, .some 102 true, false, 0, .indexAddr 22 (.tmp 107) (.tmp 108)⟩,
        ⟨some 110, .some 102 true, false, 3, .load 3 (.tmp 109)⟩,
        ⟨some 111, .some 102 true, true, 4, .call { callee := .value (.func 46), args := #[.tmp 106, .tmp 110], argTypes := #[3, 3] }⟩,
        ⟨some 112, .none, true, 4, .pick (.tmp 102) (.tmp 111) (.const (.bool false))⟩])
    (.keep [0, 1, 10, 11, 112]
    (.cond (.tmp 112)
      .skip
      (.exit 6))))
  (.block 7
    (.region [⟨some 113, .none, true, 3, .move (.tmp 10)⟩,
      ⟨some 114, .none, true, 3, .binOp .add 3 (.tmp 113) (.const (.int .i64 1)) 3⟩,
      ⟨some 10, .none, true, 3, .assign (.tmp 114)⟩])))
def rc_slices_partitionOrdered_intl3 : RCode :=
  (.seq
    (.seq
      (.region [⟨some 115, .none, true, 3, .move (.tmp 10)⟩,
        ⟨some 116, .none, true, 3, .move (.tmp 11)⟩,
        ⟨some 117, .none, true, 4, .binOp .leq 3 (.tmp 115) (.tmp 116) 3⟩,
        ⟨some 118, .none, true, 4, .move (.tmp 117)⟩,
        ⟨some 119, .some 118 true, false, 22, .move (.tmp 0)⟩,
        ⟨some 120, .some 118 true, false, 3, .move (.tmp 11)⟩,
        ⟨some 121, .some 118 true, false, 0, .indexAddr 22 (.tmp 119) (.tmp 120)⟩,
        ⟨some 122, .some 118 true, false, 3, .load 3 (.tmp 121)⟩,
        ⟨some 123, .some 118 true, false, 22, .move (.tmp 0)⟩,
        ⟨some 124, .some 118 true, false, 3, .move (.tmp 1)⟩,
        ⟨some 125, .some 118 true, false, 0, .indexAddr 22 (.tmp 123) (.tmp 124)⟩,
        ⟨some 126, .some 118 true, false, 3, .load 3 (.tmp 125)⟩,
        ⟨some 127, .some 118 true, true, 4, .call { callee := .value (.func 46), args := #[.tmp 122, .tmp 126], argTypes := #[3, 3] }⟩,
        ⟨some 128, .some 118 true, true, 4, .unOp .not 4 (.tmp 127)⟩,
        ⟨some 129, .none, true, 4, .pick (.tmp 118) (.tmp 128) (.const (.bool false))⟩])
    (.keep [0, 1, 10, 11, 129]
    (.cond (.tmp 129)
      .skip
      (.exit 8))))
  (.block 9
    (.region [⟨some 130, .none, true, 3, .move (.tmp 11)⟩,
      ⟨some 131, .none, true, 3, .binOp .sub 3 (.tmp 130) (.const (.int .i64 1)) 3⟩,
      ⟨some 11, .none, true, 3, .assign (.tmp 131)⟩])))
def rc_slices_partitionOrdered_intl4 : RCode :=
  (.block 5
    (.seq
      (.block 6
        (.loop [0, 1, 10, 11] rc_slices_partitionOrdered_intl2))
    (.keep [0, 1, 10, 11]
    (.seq
      (.block 8
        (.loop [0, 1, 10, 11] rc_slices_partitionOrdered_intl3))
    (.keep [0, 1, 10, 11]
    (.seq
      (.seq
        (.region [⟨some 132, .none, true, 3, .move (.tmp 10)⟩,
          ⟨some 133, .none, true, 3, .move (.tmp 11)⟩,
          ⟨some 134, .none, true, 4, .binOp .gtr 3 (.tmp 132) (.tmp 133) 3⟩])
      (.keep [0, 1, 10, 11, 134]
      (.cond (.tmp 134)
        (.exit 4)
        .skip)))
    (.seq
      (.region [⟨some 135, .none, false, 22, .move (.tmp 0)⟩,
        ⟨some 136, .none, false, 3, .move (.tmp 10)⟩,
        ⟨some 137, .none, false, 22, .move (.tmp 0)⟩,
        ⟨some 138, .none, false, 3, .move (.tmp 11)⟩,
        ⟨some 139, .none, false, 22, .move (.tmp 0)⟩,
        ⟨some 140, .none, false, 3, .move (.tmp 11)⟩,
        ⟨some 141, .none, false, 0, .indexAddr 22 (.tmp 139) (.tmp 140)⟩,
        ⟨some 142, .none, false, 3, .load 3 (.tmp 141)⟩,
        ⟨some 143, .none, false, 22, .move (.tmp 0)⟩,
        ⟨some 144, .none, false, 3, .move (.tmp 10)⟩,
        ⟨some 145, .none, false, 0, .indexAddr 22 (.tmp 143) (.tmp 144)⟩,
        ⟨some 146, .none, false, 3, .load 3 (.tmp 145)⟩,
        ⟨some 147, .none, true, 0, .indexAddr 22 (.tmp 135) (.tmp 136)⟩,
        ⟨none, .none, true, 0, .store 3 (.tmp 147) (.tmp 142)⟩,
        ⟨some 148, .none, true, 0, .indexAddr 22 (.tmp 137) (.tmp 138)⟩,
        ⟨none, .none, true, 0, .store 3 (.tmp 148) (.tmp 146)⟩])
    (.keep [0, 1, 10, 11]
    (.seq
      (.region [⟨some 149, .none, true, 3, .move (.tmp 10)⟩,
        ⟨some 150, .none, true, 3, .binOp .add 3 (.tmp 149) (.const (.int .i64 1)) 3⟩,
        ⟨some 10, .none, true, 3, .assign (.tmp 150)⟩])
    (.keep [0, 1, 10, 11]
    (.region [⟨some 151, .none, true, 3, .move (.tmp 11)⟩,
      ⟨some 152, .none, true, 3, .binOp .sub 3 (.tmp 151) (.const (.int .i64 1)) 3⟩,
      ⟨some 11, .none, true, 3, .assign (.tmp 152)⟩])))))))))))
def rc_slices_partitionOrdered_int : RCode :=
  (.seq
    (.region [⟨some 8, .none, true, 3, .assign (.const (.int .i64 0))⟩,
      ⟨some 9, .none, true, 4, .assign (.const (.bool false))⟩])
  (.keep [0, 1, 2, 3]
  (.seq
    (.region [⟨some 12, .none, false, 22, .move (.tmp 0)⟩,
      ⟨some 13, .none, false, 3, .move (.tmp 1)⟩,
      ⟨some 14, .none, false, 22, .move (.tmp 0)⟩,
      ⟨some 15, .none, false, 3, .move (.tmp 3)⟩,
      ⟨some 16, .none, false, 22, .move (.tmp 0)⟩,
      ⟨some 17, .none, false, 3, .move (.tmp 3)⟩,
      ⟨some 18, .none, false, 0, .indexAddr 22 (.tmp 16) (.tmp 17)⟩,
      ⟨some 19, .none, false, 3, .load 3 (.tmp 18)⟩,
      ⟨some 20, .none, false, 22, .move (.tmp 0)⟩,
      ⟨some 21, .none, false, 3, .move (.tmp 1)⟩,
      ⟨some 22, .none, false, 0, .indexAddr 22 (.tmp 20) (.tmp 21)⟩,
      ⟨some 23, .none, false, 3, .load 3 (.tmp 22)⟩,
      ⟨some 24, .none, true, 0, .indexAddr 22 (.tmp 12) (.tmp 13)⟩,
      ⟨none, .none, true, 0, .store 3 (.tmp 24) (.tmp 19)⟩,
      ⟨some 25, .none, true, 0, .indexAddr 22 (.tmp 14) (.tmp 15)⟩,
      ⟨none, .none, true, 0, .store 3 (.tmp 25) (.tmp 23)⟩])
  (.keep [0, 1, 2]
  (.seq
    (.region [⟨some 26, .none, true, 3, .move (.tmp 1)⟩,
      ⟨some 27, .none, true, 3, .binOp .add 3 (.tmp 26) (.const (.int .i64 1)) 3⟩,
      ⟨some 28, .none, true, 3, .move (.tmp 2)⟩,
      ⟨some 29, .none, true, 3, .binOp .sub 3 (.tmp 28) (.const (.int .i64 1)) 3⟩,
      ⟨some 10, .none, true, 3, .assign (.tmp 27)⟩,
      ⟨some 11, .none, true, 3, .assign (.tmp 29)⟩])
  (.keep [0, 1, 10, 11]
  (.seq
    (.block 0
      (.loop [0, 1, 10, 11] rc_slices_partitionOrdered_intl0))
  (.keep [0, 1, 10, 11]
  (.seq
    (.block 2
      (.loop [0, 1, 10, 11] rc_slices_partitionOrdered_intl1))
  (.keep [0, 1, 10, 11]
  (.seq
    (.seq
      (.region [⟨some 63, .none, true, 3, .move (.tmp 10)⟩,
        ⟨some 64, .none, true, 3, .move (.tmp 11)⟩,
        ⟨some 65, .none, true, 4, .binOp .gtr 3 (.tmp 63) (.tmp 64) 3⟩])
    (.keep [0, 1, 10, 11, 65]
    (.cond (.tmp 65)
      (.seq
        (.region [⟨some 66, .none, false, 22, .move (.tmp 0)⟩,
          ⟨some 67, .none, false, 3, .move (.tmp 11)⟩,
          ⟨some 68, .none, false, 22, .move (.tmp 0)⟩,
          ⟨some 69, .none, false, 3, .move (.tmp 1)⟩,
          ⟨some 70, .none, false, 22, .move (.tmp 0)⟩,
          ⟨some 71, .none, false, 3, .move (.tmp 1)⟩,
          ⟨some 72, .none, false, 0, .indexAddr 22 (.tmp 70) (.tmp 71)⟩,
          ⟨some 73, .none, false, 3, .load 3 (.tmp 72)⟩,
          ⟨some 74, .none, false, 22, .move (.tmp 0)⟩,
          ⟨some 75, .none, false, 3, .move (.tmp 11)⟩,
          ⟨some 76, .none, false, 0, .indexAddr 22 (.tmp 74) (.tmp 75)⟩,
          ⟨some 77, .none, false, 3, .load 3 (.tmp 76)⟩,
          ⟨some 78, .none, true, 0, .indexAddr 22 (.tmp 66) (.tmp 67)⟩,
          ⟨none, .none, true, 0, .store 3 (.tmp 78) (.tmp 73)⟩,
          ⟨some 79, .none, true, 0, .indexAddr 22 (.tmp 68) (.tmp 69)⟩,
          ⟨none, .none, true, 0, .store 3 (.tmp 79) (.tmp 77)⟩])
      (.keep [11]
      (.seq
        (.region [⟨some 80, .none, true, 3, .move (.tmp 11)⟩,
          ⟨some 8, .none, true, 3, .assign (.tmp 80)⟩,
          ⟨some 9, .none, true, 4, .assign (.const (.bool true))⟩])
      .ret)))
      .skip)))
  (.seq
    (.region [⟨some 81, .none, false, 22, .move (.tmp 0)⟩,
      ⟨some 82, .none, false, 3, .move (.tmp 10)⟩,
      ⟨some 83, .none, false, 22, .move (.tmp 0)⟩,
      ⟨some 84, .none, false, 3, .move (.tmp 11)⟩,
      ⟨some 85, .none, false, 22, .move (.tmp 0)⟩,
      ⟨some 86, .none, false, 3, .move (.tmp 11)⟩,
      ⟨some 87, .none, false, 0, .indexAddr 22 (.tmp 85) (.tmp 86)⟩,
      ⟨some 88, .none, false, 3, .load 3 (.tmp 87)⟩,
      ⟨some 89, .none, false, 22, .move (.tmp 0)⟩,
      ⟨some 90, .none, false, 3, .move (.tmp 10)⟩,
      ⟨some 91, .none, false, 0, .indexAddr 22 (.tmp 89) (.tmp 90)⟩,
      ⟨some 92, .none, false, 3, .load 3 (.tmp 91)⟩,
      ⟨some 93, .none, true, 0, .indexAddr 22 (.tmp 81) (.tmp 82)⟩,
      ⟨none, .none, true, 0, .store 3 (.tmp 93) (.tmp 88)⟩,
      ⟨some 94, .none, true, 0, .indexAddr 22 (.tmp 83) (.tmp 84)⟩,
      ⟨none, .none, true, 0, .store 3 (.tmp 94) (.tmp 92)⟩])
  (.keep [0, 1, 10, 11]
  (.seq
    (.region [⟨some 95, .none, true, 3, .move (.tmp 10)⟩,
      ⟨some 96, .none, true, 3, .binOp .add 3 (.tmp 95) (.const (.int .i64 1)) 3⟩,
      ⟨some 10, .none, true, 3, .assign (.tmp 96)⟩])
  (.keep [0, 1, 10, 11]
  (.seq
    (.region [⟨some 97, .none, true, 3, .move (.tmp 11)⟩,
      ⟨some 98, .none, true, 3, .binOp .sub 3 (.tmp 97) (.const (.int .i64 1)) 3⟩,
      ⟨some 11, .none, true, 3, .assign (.tmp 98)⟩])
  (.keep [0, 1, 10, 11]
  (.seq
    (.block 4
      (.loop [0, 1, 10, 11] rc_slices_partitionOrdered_intl4))
  (.keep [0, 1, 11]
  (.seq
    (.region [⟨some 153, .none, false, 22, .move (.tmp 0)⟩,
      ⟨some 154, .none, false, 3, .move (.tmp 11)⟩,
      ⟨some 155, .none, false, 22, .move (.tmp 0)⟩,
      ⟨some 156, .none, false, 3, .move (.tmp 1)⟩,
      ⟨some 157, .none, false, 22, .move (.tmp 0)⟩,
      ⟨some 158, .none, false, 3, .move (.tmp 1)⟩,
      ⟨some 159, .none, false, 0, .indexAddr 22 (.tmp 157) (.tmp 158)⟩,
      ⟨some 160, .none, false, 3, .load 3 (.tmp 159)⟩,
      ⟨some 161, .none, false, 22, .move (.tmp 0)⟩,
      ⟨some 162, .none, false, 3, .move (.tmp 11)⟩,
      ⟨some 163, .none, false, 0, .indexAddr 22 (.tmp 161) (.tmp 162)⟩,
      ⟨some 164, .none, false, 3, .load 3 (.tmp 163)⟩,
      ⟨some 165, .none, true, 0, .indexAddr 22 (.tmp 153) (.tmp 154)⟩,
      ⟨none, .none, true, 0, .store 3 (.tmp 165) (.tmp 160)⟩,
      ⟨some 166, .none, true, 0, .indexAddr 22 (.tmp 155) (.tmp 156)⟩,
      ⟨none, .none, true, 0, .store 3 (.tmp 166) (.tmp 164)⟩])
  (.keep [11]
  (.seq
    (.region [⟨some 167, .none, true, 3, .move (.tmp 11)⟩,
      ⟨some 8, .none, true, 3, .assign (.tmp 167)⟩,
      ⟨some 9, .none, true, 4, .assign (.const (.bool false))⟩])
  .ret))))))))))))))))))))))
theorem t_slices_partitionOrdered_int : FnT Try.prog f_slices_partitionOrdered_int rc_slices_partitionOrdered_int [.tmp 8, .tmp 9] 4 := ⟨⟨[], Try.f48, _, Try.func48, rfl, by kernel_rfl, by kernel_rfl, by kernel_rfl, rfl, by decide⟩, by kernel_rfl⟩
/-- math/bits.Len32 -/
abbrev f_math_bits_Len32 : FuncId := 49
def rc_math_bits_Len32 : RCode :=
  (.seq
    (.region [⟨some 2, .none, true, 3, .assign (.const (.int .i64 0))⟩])
  (.keep [0, 2]
  (.seq
    (.seq
      (.region [⟨some 3, .none, true, 64, .move (.tmp 0)⟩,
        ⟨some 4, .none, true, 4, .binOp .geq 64 (.tmp 3) (.const (.int .u32 65536)) 64⟩])
    (.keep [0, 2, 4]
    (.cond (.tmp 4)
      (.seq
        (.region [⟨some 5, .none, true, 64, .move (.tmp 0)⟩,
          ⟨some 6, .none, true, 64, .binOp .shr 64 (.tmp 5) (.const (.int .u64 16)) 54⟩,
          ⟨some 0, .none, true, 64, .assign (.tmp 6)⟩])
      (.keep [0]
      (.region [⟨some 2, .none, true, 3, .assign (.const (.int .i64 16))⟩])))
      .skip)))
  (.seq
    (.seq
      (.region [⟨some 7, .none, true, 64, .move (.tmp 0)⟩,
        ⟨some 8, .none, true, 4, .binOp .geq 64 (.tmp 7) (.const (.int .u32 256)) 64⟩])
    (.keep [0, 2, 8]
    (.cond (.tmp 8)
      (.seq
        (.region [⟨some 9, .none, true, 64, .move (.tmp 0)⟩,
          ⟨some 10, .none, true, 64, .binOp .shr 64 (.tmp 9) (.const (.int .u64 8)) 54⟩,
          ⟨some 0, .none, true, 64, .assign (.tmp 10)⟩])
      (.keep [0, 2]
      (.region [⟨some 11, .none, true, 3, .move (.tmp 2)⟩,
        ⟨some 12, .none, true, 3, .binOp .add 3 (.tmp 11) (.const (.int .i64 8)) 3⟩,
        ⟨some 2, .none, true, 3, .assign (.tmp 12)⟩])))
      .skip)))
  (.seq
    (.region [⟨some 13, .none, true, 3, .move (.tmp 2)⟩,
      ⟨some 14, .none, true, 64, .move (.tmp 0)⟩,
      ⟨some 15, .none, true, 5, .convert 64 5 (.tmp 14)⟩,
      ⟨some 16, .none, true, 5, .index 9 (.const (.string { data := #[0, 1, 2, 2, 3, 3, 3, 3, 4, 4, 4, 4, 4, 4, 4, 4, 5, 5, 5, 5, 5, 5, 5, 5, 5, 5, 5, 5, 5, 5, 5, 5, 6, 6, 6, 6, 6, 6, 6, 6, 6, 6, 6, 6, 6, 6, 6, 6, 6, 6, 6, 6, 6, 6, 6, 6, 6, 6, 6, 6, 6, 6, 6, 6, 7, 7, 7, 7, 7, 7, 7, 7, 7, 7, 7, 7, 7, 7, 7, 7, 7, 7, 7, 7, 7, 7, 7, 7, 7, 7, 7, 7, 7, 7, 7, 7, 7, 7, 7, 7, 7, 7, 7, 7, 7, 7, 7, 7, 7, 7, 7, 7, 7, 7, 7, 7, 7, 7, 7, 7, 7, 7, 7, 7, 7, 7, 7, 7, 8, 8, 8, 8, 8, 8, 8, 8, 8, 8, 8, 8, 8, 8, 8, 8, 8, 8, 8, 8, 8, 8, 8, 8, 8, 8, 8, 8, 8, 8, 8, 8, 8, 8, 8, 8, 8, 8, 8, 8, 8, 8, 8, 8, 8, 8, 8, 8, 8, 8, 8, 8, 8, 8, 8, 8, 8, 8, 8, 8, 8, 8, 8, 8, 8, 8, 8, 8, 8, 8, 8, 8, 8, 8, 8, 8, 8, 8, 8, 8, 8, 8, 8, 8, 8, 8, 8, 8, 8, 8, 8, 8, 8, 8, 8, 8, 8, 8, 8, 8, 8, 8, 8, 8, 8, 8, 8, 8, 8, 8, 8, 8, 8, 8, 8, 8, 8, 8, 8, 8, 8, 8, 8, 8, 8, 8, 8, 8] })) (.tmp 15)⟩,
      ⟨some 17, .none, true, 3, .convert 5 3 (.tmp 16)⟩,
      ⟨some 18, .none, true, 3, .binOp .add 3 (.tmp 13) (.tmp 17) 3⟩,
      ⟨some 2, .none, true, 3, .assign (.tmp 18)⟩])
  .ret)))))
theorem t_math_bits_Len32 : FnT Try.prog f_math_bits_Len32 rc_math_bits_Len32 [.tmp 2] 1 := ⟨⟨[], Try.f49, _, Try.func49, rfl, by kernel_rfl, by kernel_rfl, by kernel_rfl, rfl, by decide⟩, by kernel_rfl⟩
/-- math/bits.Len64 -/
abbrev f_math_bits_Len64 : FuncId := 50
def rc_math_bits_Len64 : RCode :=
  (.seq
    (.region [⟨some 2, .none, true, 3, .assign (.const (.int .i64 0))⟩])
  (.keep [0, 2]
  (.seq
    (.seq
      (.region [⟨some 3, .none, true, 66, .move (.tmp 0)⟩,
        ⟨some 4, .none, true, 4, .binOp .geq 66 (.tmp 3) (.const (.int .u64 4294967296)) 66⟩])
    (.keep [0, 2, 4]
    (.cond (.tmp 4)
      (.seq
        (.region [⟨some 5, .none, true, 66, .move (.tmp 0)⟩,
          ⟨some 6, .none, true, 66, .binOp .shr 66 (.tmp 5) (.const (.int .u64 32)) 54⟩,
          ⟨some 0, .none, true, 66, .assign (.tmp 6)⟩])
      (.keep [0]
      (.region [⟨some 2, .none, true, 3, .assign (.const (.int .i64 32))⟩])))
      .skip)))
  (.seq
    (.seq
      (.region [⟨some 7, .none, true, 66, .move (.tmp 0)⟩,
        ⟨some 8, .none, true, 4, .binOp .geq 66 (.tmp 7) (.const (.int .u64 65536)) 66⟩])
    (.keep [0, 2, 8]
    (.cond (.tmp 8)
      (.seq
        (.region [⟨some 9, .none, true, 66, .move (.tmp 0)⟩,
          ⟨some 10, .none, true, 66, .binOp .shr 66 (.tmp 9) (.const (.int .u64 16)) 54⟩,
          ⟨some 0, .none, true, 66, .assign (.tmp 10)⟩])
      (.keep [0, 2]
      (.region [⟨some 11, .none, true, 3, .move (.tmp 2)⟩,
        ⟨some 12, .none, true, 3, .binOp .add 3 (.tmp 11) (.const (.int .i64 16)) 3⟩,
        ⟨some 2, .none, true, 3, .assign (.tmp 12)⟩])))
      .skip)))
  (.seq
    (.seq
      (.region [⟨some 13, .none, true, 66, .move (.tmp 0)⟩,
        ⟨some 14, .none, true, 4, .binOp .geq 66 (.tmp 13) (.const (.int .u64 256)) 66⟩])
    (.keep [0, 2, 14]
    (.cond (.tmp 14)
      (.seq
        (.region [⟨some 15, .none, true, 66, .move (.tmp 0)⟩,
          ⟨some 16, .none, true, 66, .binOp .shr 66 (.tmp 15) (.const (.int .u64 8)) 54⟩,
          ⟨some 0, .none, true, 66, .assign (.tmp 16)⟩])
      (.keep [0, 2]
      (.region [⟨some 17, .none, true, 3, .move (.tmp 2)⟩,
        ⟨some 18, .none, true, 3, .binOp .add 3 (.tmp 17) (.const (.int .i64 8)) 3⟩,
        ⟨some 2, .none, true, 3, .assign (.tmp 18)⟩])))
      .skip)))
  (.seq
    (.region [⟨some 19, .none, true, 3, .move (.tmp 2)⟩,
      ⟨some 20, .none, true, 66, .move (.tmp 0)⟩,
      ⟨some 21, .none, true, 5, .convert 66 5 (.tmp 20)⟩,
      ⟨some 22, .none, true, 5, .index 9 (.const (.string { data := #[0, 1, 2, 2, 3, 3, 3, 3, 4, 4, 4, 4, 4, 4, 4, 4, 5, 5, 5, 5, 5, 5, 5, 5, 5, 5, 5, 5, 5, 5, 5, 5, 6, 6, 6, 6, 6, 6, 6, 6, 6, 6, 6, 6, 6, 6, 6, 6, 6, 6, 6, 6, 6, 6, 6, 6, 6, 6, 6, 6, 6, 6, 6, 6, 7, 7, 7, 7, 7, 7, 7, 7, 7, 7, 7, 7, 7, 7, 7, 7, 7, 7, 7, 7, 7, 7, 7, 7, 7, 7, 7, 7, 7, 7, 7, 7, 7, 7, 7, 7, 7, 7, 7, 7, 7, 7, 7, 7, 7, 7, 7, 7, 7, 7, 7, 7, 7, 7, 7, 7, 7, 7, 7, 7, 7, 7, 7, 7, 8, 8, 8, 8, 8, 8, 8, 8, 8, 8, 8, 8, 8, 8, 8, 8, 8, 8, 8, 8, 8, 8, 8, 8, 8, 8, 8, 8, 8, 8, 8, 8, 8, 8, 8, 8, 8, 8, 8, 8, 8, 8, 8, 8, 8, 8, 8, 8, 8, 8, 8, 8, 8, 8, 8, 8, 8, 8, 8, 8, 8, 8, 8, 8, 8, 8, 8, 8, 8, 8, 8, 8, 8, 8, 8, 8, 8, 8, 8, 8, 8, 8, 8, 8, 8, 8, 8, 8, 8, 8, 8, 8, 8, 8, 8, 8, 8, 8, 8, 8, 8, 8, 8, 8, 8, 8, 8, 8, 8, 8, 8, 8, 8, 8, 8, 8, 8, 8, 8, 8, 8, 8, 8, 8, 8, 8, 8, 8] })) (.tmp 21)⟩,
      ⟨some 23, .none, true, 3, .convert 5 3 (.tmp 22)⟩,
      ⟨some 24, .none, true, 3, .binOp .add 3 (.tmp 19) (.tmp 23) 3⟩,
      ⟨some 2, .none, true, 3, .assign (.tmp 24)⟩])
  .ret))))))
theorem t_math_bits_Len64 : FnT Try.prog f_math_bits_Len64 rc_math_bits_Len64 [.tmp 2] 1 := ⟨⟨[], Try.f50, _, Try.func50, rfl, by kernel_rfl, by kernel_rfl, by kernel_rfl, rfl, by decide⟩, by kernel_rfl⟩
/-- slices.siftDownOrdered[int] -/
abbrev f_slices_siftDownOrdered_int : FuncId := 51
def rc_slices_siftDownOrdered_intl0 : RCode :=
  (.block 1
    (.seq
      (.region [⟨some 11, .none, true, 3, .move (.tmp 8)⟩,
        ⟨some 12, .none, true, 3, .binOp .mul 3 (.const (.int .i64 2)) (.tmp 11) 3⟩,
        ⟨some 13, .none, true, 3, .binOp .add 3 (.tmp 12) (.const (.int .i64 1)) 3⟩,
        ⟨some 9, .none, true, 3, .assign (.tmp 13)⟩])
    (.keep [0, 2, 3, 8, 9]
    (.seq
      (.seq
        (.region [⟨some 14, .none, true, 3, .move (.tmp 9)⟩,
          ⟨some 15, .none, true, 3, .move (.tmp 2)⟩,
          ⟨some 16, .none, true, 4, .binOp .geq 3 (.tmp 14) (.tmp 15) 3⟩])
      (.keep [0, 2, 3, 8, 9, 16]
      (.cond (.tmp 16)
        (.exit 0)
        .skip)))
    (.seq
      (.seq
        (.region [⟨some 17, .none, true, 3, .move (.tmp 9)⟩,
          ⟨some 18, .none, true, 3, .binOp .add 3 (.tmp 17) (.const (.int .i64 1)) 3⟩,
          ⟨some 19, .none, true, 3, .move (.tmp 2)⟩,
          ⟨some 20, .none, true, 4, .binOp .lss 3 (.tmp 18) (.tmp 19) 3⟩,
          ⟨some 21, .none, true, 4, .move (.tmp 20)⟩,
          ⟨some 22, .some 21 true, false, 22, .move (.tmp 0)⟩,
          ⟨some 23, .some 21 true, false, 3, .move (.tmp 3)⟩,
          ⟨some 24, .some 21 true, false, 3, .move (.tmp 9)⟩,
          ⟨some 25, .some 21 true, false, 3, .binOp .add 3 (.tmp 23) (.tmp 24) 3⟩,
          ⟨some 26, .some 21 true, false, 0, .indexAddr 22 (.tmp 22) (.tmp 25)⟩,
          ⟨some 27, .some 21 true, false, 3, .load 3 (.tmp 26)⟩,
          ⟨some 28, .some 21 true, false, 22, .move (.tmp 0)⟩,
          ⟨some 29, .some 21 true, false, 3, .move (.tmp 3)⟩,
          ⟨some 30, .some 21 true, false, 3, .move (.tmp 9)⟩,
          ⟨some 31, .some 21 true, false, 3, .binOp .add 3 (.tmp 29) (.tmp 30) 3⟩,
          ⟨some 32, .some 21 true, false, 3, .binOp .add 3 (.tmp 31) (.const (.int .i64 1)) 3⟩,
          ⟨some 33, .some 21 true, false, 0, .indexAddr 22 (.tmp 28) (.tmp 32)⟩,
          ⟨some 34, .some 21 true, false, 3, .load 3 (.tmp 33)⟩,
          ⟨some 35, .some 21 true, true, 4, .call { callee := .value (.func 46), args := #[.tmp 27, .tmp 34], argTypes := #[3, 3] }⟩,
          ⟨some 36, .none, true, 4, .pick (.tmp 21) (.tmp 35) (.const (.bool false))⟩])
      (.keep [0, 2, 3, 8, 9, 36]
      (.cond (.tmp 36)
        (.region [⟨some 37, .none, true, 3, .move (.tmp 9)⟩,
          ⟨some 38, .none, true, 3, .binOp .add 3 (.tmp 37) (.const (.int .i64 1)) 3⟩,
          ⟨some 9, .none, true, 3, .assign (.tmp 38)⟩])
        .skip)))
    (.seq
      (.seq
        (.region [⟨some 39, .none, false, 22, .move (.tmp 0)⟩,
          ⟨some 40, .none, false, 3, .move (.tmp 3)⟩,
          ⟨some 41, .none, false, 3, .move (.tmp 8)⟩,
          ⟨some 42, .none, false, 3, .binOp .add 3 (.tmp 40) (.tmp 41) 3⟩,
          ⟨some 43, .none, false, 0, .indexAddr 22 (.tmp 39) (.tmp 42)⟩,
          ⟨some 44, .none, false, 3, .load 3 (.tmp 43)⟩,
          ⟨some 45, .none, false, 22, .move (.tmp 0)⟩,
          ⟨some 46, .none, false, 3, .move (.tmp 3)⟩,
          ⟨some 47, .none, false, 3, .move (.tmp 9)⟩,
          ⟨some 48, .none, false, 3, .binOp .add 3 (.tmp 46) (.tmp 47) 3⟩,
          ⟨some 49, .none, false, 0, .indexAddr 22 (.tmp 45) (.tmp 48)⟩,
          ⟨some 50, .none, false, 3, .load 3 (.tmp 49)⟩,
          ⟨some 51, .none, true, 4, .call { callee := .value (.func 46), args := #[.tmp 44, .tmp 50], argTypes := #[3, 3] }⟩,
          ⟨some 52, .none, true, 4, .unOp .not 4 (.tmp 51)⟩])
      (.keep [0, 2, 3, 8, 9, 52]
      (.cond (.tmp 52)
        .ret
        .skip)))
    (.seq
      (.region [⟨some 53, .none, false, 22, .move (.tmp 0)⟩,
        ⟨some 54, .none, false, 3, .move (.tmp 3)⟩,
        ⟨some 55, .none, false, 3, .move (.tmp 8)⟩,
        ⟨some 56, .none, false, 3, .binOp .add 3 (.tmp 54) (.tmp 55) 3⟩,
        ⟨some 57, .none, false, 22, .move (.tmp 0)⟩,
        ⟨some 58, .none, false, 3, .move (.tmp 3)⟩,
        ⟨some 59, .none, false, 3, .move (.tmp 9)⟩,
        ⟨some 60, .none, false, 3, .binOp .add 3 (.tmp 58) (.tmp 59) 3⟩,
        ⟨some 61, .none, false, 22, .move (.tmp 0)⟩,
        ⟨some 62, .none, false, 3, .move (.tmp 3)⟩,
        ⟨some 63, .none, false, 3, .move (.tmp 9)⟩,
        ⟨some 64, .none, false, 3, .binOp .add 3 (.tmp 62) (.tmp 63) 3⟩,
        ⟨some 65, .none, false, 0, .indexAddr 22 (.tmp 61) (.tmp 64)⟩,
        ⟨some 66, .none, false, 3, .load 3 (.tmp 65)⟩,
        ⟨some 67, .none, false, 22, .move (.tmp 0)⟩,
        ⟨some 68, .none, false, 3, .move (.tmp 3)⟩,
        ⟨some 69, .none, false, 3, .move (.tmp 8)⟩,
        ⟨some 70, .none, false, 3, .binOp .add 3 (.tmp 68) (.tmp 69) 3⟩,
        ⟨some 71, .none, false, 0, .indexAddr 22 (.tmp 67) (.tmp 70)⟩,
        ⟨some 72, .none, false, 3, .load 3 (.tmp 71)⟩,
        ⟨some 73, .none, true, 0, .indexAddr 22 (.tmp 53) (.tmp 56)⟩,
        ⟨none, .none, true, 0, .store 3 (.tmp 73) (.tmp 66)⟩,
        ⟨some 74, .none, true, 0, .indexAddr 22 (.tmp 57) (.tmp 60)⟩,
        ⟨none, .none, true, 0, .store 3 (.tmp 74) (.tmp 72)⟩])
    (.keep [0, 2, 3, 9]
    (.region [⟨some 75, .none, true, 3, .move (.tmp 9)⟩,
      ⟨some 8, .none, true, 3, .assign (.tmp 75)⟩])))))))))
def rc_slices_siftDownOrdered_int : RCode :=
  (.seq
    (.region [⟨some 10, .none, true, 3, .move (.tmp 1)⟩,
      ⟨some 8, .none, true, 3, .assign (.tmp 10)⟩])
  (.keep [0, 2, 3, 8]
  (.block 0
    (.loop [0, 2, 3, 8] rc_slices_siftDownOrdered_intl0))))
theorem t_slices_siftDownOrdered_int : FnT Try.prog f_slices_siftDownOrdered_int rc_slices_siftDownOrdered_int [] 4 := ⟨⟨[], Try.f51, _, Try.func51, rfl, by kernel_rfl, by kernel_rfl, by kernel_rfl, rfl, by decide⟩, by kernel_rfl⟩
/-- slices.nextPowerOfTwo -/
abbrev f_slices_nextPowerOfTwo : FuncId := 52
def rc_slices_nextPowerOfTwo : RCode :=
  (.seq
    (.region [⟨some 2, .none, true, 54, .assign (.const (.int .u64 0))⟩])
  (.keep [0]
  (.seq
    (.region [⟨some 3, .none, true, 3, .move (.tmp 0)⟩,
      ⟨some 4, .none, true, 54, .convert 3 54 (.tmp 3)⟩,
      ⟨some 5, .none, true, 3, .call { callee := .value (.func 38), args := #[.tmp 4], argTypes := #[54] }⟩,
      ⟨some 6, .none, true, 54, .binOp .shl 54 (.const (.int .u64 1)) (.tmp 5) 3⟩,
      ⟨some 2, .none, true, 54, .assign (.tmp 6)⟩])
  .ret)))
theorem t_slices_nextPowerOfTwo : FnT Try.prog f_slices_nextPowerOfTwo rc_slices_nextPowerOfTwo [.tmp 2] 1 := ⟨⟨[], Try.f52, _, Try.func52, rfl, by kernel_rfl, by kernel_rfl, by kernel_rfl, rfl, by decide⟩, by kernel_rfl⟩
/-- (*slices.xorshift).Next -/
abbrev f_P_slices_xorshift_Next : FuncId := 53
def rc_P_slices_xorshift_Next : RCode :=
  (.seq
    (.region [⟨some 2, .none, true, 66, .assign (.const (.int .u64 0))⟩])
  (.keep [0]
  (.seq
    (.region [⟨some 3, .none, false, 73, .move (.tmp 0)⟩,
      ⟨some 4, .none, false, 0, .nilCheck (.tmp 3)⟩,
      ⟨some 5, .none, false, 67, .load 67 (.tmp 4)⟩,
      ⟨some 6, .none, false, 73, .move (.tmp 0)⟩,
      ⟨some 7, .none, false, 0, .nilCheck (.tmp 6)⟩,
      ⟨some 8, .none, false, 67, .load 67 (.tmp 7)⟩,
      ⟨some 9, .none, false, 67, .binOp .shl 67 (.tmp 8) (.const (.int .u64 13)) 54⟩,
      ⟨some 10, .none, true, 67, .binOp .xor 67 (.tmp 5) (.tmp 9) 67⟩,
      ⟨some 11, .none, true, 0, .nilCheck (.tmp 3)⟩,
      ⟨none, .none, true, 0, .store 67 (.tmp 11) (.tmp 10)⟩])
  (.keep [0]
  (.seq
    (.region [⟨some 12, .none, false, 73, .move (.tmp 0)⟩,
      ⟨some 13, .none, false, 0, .nilCheck (.tmp 12)⟩,
      ⟨some 14, .none, false, 67, .load 67 (.tmp 13)⟩,
      ⟨some 15, .none, false, 73, .move (.tmp 0)⟩,
      ⟨some 16, .none, false, 0, .nilCheck (.tmp 15)⟩,
      ⟨some 17, .none, false, 67, .load 67 (.tmp 16)⟩,
      ⟨some 18, .none, false, 67, .binOp .shr 67 (.tmp 17) (.const (.int .u64 7)) 54⟩,
      ⟨some 19, .none, true, 67, .binOp .xor 67 (.tmp 14) (.tmp 18) 67⟩,
      ⟨some 20, .none, true, 0, .nilCheck (.tmp 12)⟩,
      ⟨none, .none, true, 0, .store 67 (.tmp 20) (.tmp 19)⟩])
  (.keep [0]
  (.seq
    (.region [⟨some 21, .none, false, 73, .move (.tmp 0)⟩,
      ⟨some 22, .none, false, 0, .nilCheck (.tmp 21)⟩,
      ⟨some 23, .none, false, 67, .load 67 (.tmp 22)⟩,
      ⟨some 24, .none, false, 73, .move (.tmp 0)⟩,
      ⟨some 25, .none, false, 0, .nilCheck (.tmp 24)⟩,
      ⟨some 26, .none, false, 67, .load 67 (.tmp 25)⟩,
      ⟨some 27, .none, false, 67, .binOp .shl 67 (.tmp 26) (.const (.int .u64 17)) 54⟩,
      ⟨some 28, .none, true, 67, .binOp .xor 67 (.tmp 23) (.tmp 27) 67⟩,
      ⟨some 29, .none, true, 0, .nilCheck (.tmp 21)⟩,
      ⟨none, .none, true, 0, .store 67 (.tmp 29) (.tmp 28)⟩])
  (.keep [0]
  (.seq
    (.region [⟨some 30, .none, true, 73, .move (.tmp 0)⟩,
      ⟨some 31, .none, true, 0, .nilCheck (.tmp 30)⟩,
      ⟨some 32, .none, true, 67, .load 67 (.tmp 31)⟩,
      ⟨some 2, .none, true, 66, .assign (.tmp 32)⟩])
  .ret)))))))))
theorem t_P_slices_xorshift_Next : FnT Try.prog f_P_slices_xorshift_Next rc_P_slices_xorshift_Next [.tmp 2] 1 := ⟨⟨[], Try.f53, _, Try.func53, rfl, by kernel_rfl, by kernel_rfl, by kernel_rfl, rfl, by decide⟩, by kernel_rfl⟩
/-- slices.medianAdjacentOrdered[int] -/
abbrev f_slices_medianAdjacentOrdered_int : FuncId := 54
def rc_slices_medianAdjacentOrdered_int : RCode :=
  (.seq
    (.region [⟨some 6, .none, true, 3, .assign (.const (.int .i64 0))⟩])
  (.keep [0, 1, 2]
  (.seq
    (.region [⟨some 7, .none, true, 22, .move (.tmp 0)⟩,
      ⟨some 8, .none, true, 3, .move (.tmp 1)⟩,
      ⟨some 9, .none, true, 3, .binOp .sub 3 (.tmp 8) (.const (.int .i64 1)) 3⟩,
      ⟨some 10, .none, true, 3, .move (.tmp 1)⟩,
      ⟨some 11, .none, true, 3, .move (.tmp 1)⟩,
      ⟨some 12, .none, true, 3, .binOp .add 3 (.tmp 11) (.const (.int .i64 1)) 3⟩,
      ⟨some 13, .none, true, 71, .move (.tmp 2)⟩,
      ⟨some 14, .none, true, 3, .call { callee := .value (.func 55), args := #[.tmp 7, .tmp 9, .tmp 10, .tmp 12, .tmp 13], argTypes := #[22, 3, 3, 3, 71] }⟩,
      ⟨some 6, .none, true, 3, .assign (.tmp 14)⟩])
  .ret)))
theorem t_slices_medianAdjacentOrdered_int : FnT Try.prog f_slices_medianAdjacentOrdered_int rc_slices_medianAdjacentOrdered_int [.tmp 6] 3 := ⟨⟨[], Try.f54, _, Try.func54, rfl, by kernel_rfl, by kernel_rfl, by kernel_rfl, rfl, by decide⟩, by kernel_rfl⟩
/-- slices.medianOrdered[int] -/
abbrev f_slices_medianOrdered_int : FuncId := 55
def rc_slices_medianOrdered_int : RCode :=
  (.seq
    (.region [⟨some 10, .none, true, 3, .assign (.const (.int .i64 0))⟩])
  (.keep [0, 1, 2, 3, 4]
  (.seq
    (.region [⟨some 12, .none, true, 22, .move (.tmp 0)⟩,
      ⟨some 13, .none, true, 3, .move (.tmp 1)⟩,
      ⟨some 14, .none, true, 3, .move (.tmp 2)⟩,
      ⟨some 15, .none, true, 71, .move (.tmp 4)⟩,
      ⟨some 16, .none, true, 74, .call { callee := .value (.func 57), args := #[.tmp 12, .tmp 13, .tmp 14, .tmp 15], argTypes := #[22, 3, 3, 71] }⟩,
      ⟨some 11, .none, true, 74, .move (.tmp 16)⟩,
      ⟨some 17, .none, true, 3, .extract (.tmp 11) 0⟩,
      ⟨some 18, .none, true, 3, .extract (.tmp 11) 1⟩,
      ⟨some 1, .none, true, 3, .assign (.tmp 17)⟩,
      ⟨some 2, .none, true, 3, .assign (.tmp 18)⟩])
  (.keep [0, 1, 2, 3, 4]
  (.seq
    (.region [⟨some 20, .none, true, 22, .move (.tmp 0)⟩,
      ⟨some 21, .none, true, 3, .move (.tmp 2)⟩,
      ⟨some 22, .none, true, 3, .move (.tmp 3)⟩,
      ⟨some 23, .none, true, 71, .move (.tmp 4)⟩,
      ⟨some 24, .none, true, 74, .call { callee := .value (.func 57), args := #[.tmp 20, .tmp 21, .tmp 22, .tmp 23], argTypes := #[22, 3, 3, 71] }⟩,
      ⟨some 19, .none, true, 74, .move (.tmp 24)⟩,
      ⟨some 25, .none, true, 3, .extract (.tmp 19) 0⟩,
      ⟨some 26, .none, true, 3, .extract (.tmp 19) 1⟩,
      ⟨some 2, .none, true, 3, .assign (.tmp 25)⟩,
      ⟨some 3, .none, true, 3, .assign (.tmp 26)⟩])
  (.keep [0, 1, 2, 4]
  (.seq
    (.region [⟨some 28, .none, true, 22, .move (.tmp 0)⟩,
      ⟨some 29, .none, true, 3, .move (.tmp 1)⟩,
      ⟨some 30, .none, true, 3, .move (.tmp 2)⟩,
      ⟨some 31, .none, true, 71, .move (.tmp 4)⟩,
      ⟨some 32, .none, true, 74, .call { callee := .value (.func 57), args := #[.tmp 28, .tmp 29, .tmp 30, .tmp 31], argTypes := #[22, 3, 3, 71] }⟩,
      ⟨some 27, .none, true, 74, .move (.tmp 32)⟩,
      ⟨some 33, .none, true, 3, .extract (.tmp 27) 0⟩,
      ⟨some 34, .none, true, 3, .extract (.tmp 27) 1⟩,
      ⟨some 1, .none, true, 3, .assign (.tmp 33)⟩,
      ⟨some 2, .none, true, 3, .assign (.tmp 34)⟩])
  (.keep [2]
  (.seq
    (.region [⟨some 35, .none, true, 3, .move (.tmp 2)⟩,
      ⟨some 10, .none, true, 3, .assign (.tmp 35)⟩])
  .ret)))))))))
theorem t_slices_medianOrdered_int : FnT Try.prog f_slices_medianOrdered_int rc_slices_medianOrdered_int [.tmp 10] 5 := ⟨⟨[], Try.f55, _, Try.func55, rfl, by kernel_rfl, by kernel_rfl, by kernel_rfl, rfl, by decide⟩, by kernel_rfl⟩
/-- cmp.isNaN[int] -/
abbrev f_cmp_isNaN_int : FuncId := 56
def rc_cmp_isNaN_int : RCode :=
  (.seq
    (.region [⟨some 2, .none, true, 4, .assign (.const (.bool false))⟩])
  (.keep [0]
  (.seq
    (.region [⟨some 3, .none, true, 3, .move (.tmp 0)⟩,
      ⟨some 4, .none, true, 3, .move (.tmp 0)⟩,
      ⟨some 5, .none, true, 4, .binOp .neq 3 (.tmp 3) (.tmp 4) 3⟩,
      ⟨some 2, .none, true, 4, .assign (.tmp 5)⟩])
  .ret)))
theorem t_cmp_isNaN_int : FnT Try.prog f_cmp_isNaN_int rc_cmp_isNaN_int [.tmp 2] 1 := ⟨⟨[], Try.f56, _, Try.func56, rfl, by kernel_rfl, by kernel_rfl, by kernel_rfl, rfl, by decide⟩, by kernel_rfl⟩
/-- slices.order2Ordered[int] -/
abbrev f_slices_order2Ordered_int : FuncId := 57
def rc_slices_order2Ordered_int : RCode :=
  (.seq
    (.region [⟨some 8, .none, true, 3, .assign (.const (.int .i64 0))⟩,
      ⟨some 9, .none, true, 3, .assign (.const (.int .i64 0))⟩])
  (.keep [0, 1, 2, 3]
  (.seq
    (.seq
      (.region [⟨some 10, .none, false, 22, .move (.tmp 0)⟩,
        ⟨some 11, .none, false, 3, .move (.tmp 2)⟩,
        ⟨some 12, .none, false, 0, .indexAddr 22 (.tmp 10) (.tmp 11)⟩,
        ⟨some 13, .none, false, 3, .load 3 (.tmp 12)⟩,
        ⟨some 14, .none, false, 22, .move (.tmp 0)⟩,
        ⟨some 15, .none, false, 3, .move (.tmp 1)⟩,
        ⟨some 16, .none, false, 0, .indexAddr 22 (.tmp 14) (.tmp 15)⟩,
        ⟨some 17, .none, false, 3, .load 3 (.tmp 16)⟩,
        ⟨some 18, .none, true, 4, .call { callee := .value (.func 46), args := #[.tmp 13, .tmp 17], argTypes := #[3, 3] }⟩])
    (.keep [1, 2, 3, 18]
    (.cond (.tmp 18)
      (.seq
        (.region [⟨some 19, .none, true, 71, .move (.tmp 3)⟩,
          ⟨some 20, .none, true, 0, .nilCheck (.tmp 19)⟩,
          ⟨some 21, .none, true, 3, .load 3 (.tmp 20)⟩,
          ⟨some 22, .none, true, 3, .binOp .add 3 (.tmp 21) (.const (.int .i64 1)) 3⟩,
          ⟨some 23, .none, true, 0, .nilCheck (.tmp 19)⟩,
          ⟨none, .none, true, 0, .store 3 (.tmp 23) (.tmp 22)⟩])
      (.keep [1, 2]
      (.seq
        (.region [⟨some 24, .none, true, 3, .move (.tmp 2)⟩,
          ⟨some 25, .none, true, 3, .move (.tmp 1)⟩,
          ⟨some 8, .none, true, 3, .assign (.tmp 24)⟩,
          ⟨some 9, .none, true, 3, .assign (.tmp 25)⟩])
      .ret)))
      .skip)))
  (.seq
    (.region [⟨some 26, .none, true, 3, .move (.tmp 1)⟩,
      ⟨some 27, .none, true, 3, .move (.tmp 2)⟩,
      ⟨some 8, .none, true, 3, .assign (.tmp 26)⟩,
      ⟨some 9, .none, true, 3, .assign (.tmp 27)⟩])
  .ret))))
theorem t_slices_order2Ordered_int : FnT Try.prog f_slices_order2Ordered_int rc_slices_order2Ordered_int [.tmp 8, .tmp 9] 4 := ⟨⟨[], Try.f57, _, Try.func57, rfl, by kernel_rfl, by kernel_rfl, by kernel_rfl, rfl, by decide⟩, by kernel_rfl⟩
def tab : XTab :=
  [(3, rc_reevelaw10_ForestDepths, [.tmp 2], 1),
   (4, rc_reevelaw10_ForestCuts, [.tmp 4], 2),
   (5, rc_reevelaw10_ForestGrows, [.tmp 6], 3),
   (7, rc_reevelaw10_ForestSays, [.tmp 6], 3),
   (8, rc_reevelaw10_awake, [.tmp 0], 0),
   (9, rc_reevelaw10_up, [.cell 2 25], 1),
   (10, rc_forest_Good, [.tmp 2], 1),
   (11, rc_forest_Depth, [.tmp 4], 2),
   (12, rc_forest_Kids, [.tmp 4], 2),
   (13, rc_forest_Below, [.tmp 4], 2),
   (14, rc_forest_Prune, [.cell 4 25, .tmp 5], 2),
   (15, rc_forest_Drop, [.cell 4 25, .tmp 5], 2),
   (16, rc_forest_Add, [.cell 6 25, .tmp 7], 3),
   (17, rc_reevelaw10_ints, [.tmp 4], 2),
   (18, rc_forest_Move, [.cell 6 25, .tmp 7], 3),
   (19, rc_forest_Order, [.tmp 2], 1),
   (20, rc_reeveref7_Add, [.tmp 6, .tmp 7], 3),
   (21, rc_reeveref7_Drop, [.tmp 4, .tmp 5], 2),
   (22, rc_reeveref7_Move, [.tmp 6, .tmp 7], 3),
   (23, rc_reeveref7_Prune, [.tmp 4, .tmp 5], 2),
   (24, rc_reeveref7_GoodForest, [.tmp 2], 1),
   (25, rc_reeveref7_Depth, [.tmp 4], 2),
   (26, rc_reeveref7_Kids, [.tmp 4], 2),
   (27, rc_reeveref7_Below, [.tmp 4], 2),
   (28, rc_reeveref7_Order, [.tmp 2], 1),
   (29, rc_forest_Forest_is, [.tmp 4], 2),
   (30, rc_forest_may, [.tmp 4], 2),
   (31, rc_forest_Forest_of, [.tmp 4], 2),
   (32, rc_forest_Forest_behind, [.tmp 4], 2),
   (33, rc_slices_Sort_S_int_int, [], 1),
   (34, rc_forest_Forest_clone, [.cell 2 25], 1),
   (35, rc_reeveref7_There, [.tmp 4], 2),
   (36, rc_reeveref7_down, [.tmp 6], 3),
   (37, rc_slices_pdqsortOrdered_int, [], 4),
   (38, rc_math_bits_Len, [.tmp 2], 1),
   (39, rc_slices_Clone_S_int_int, [.tmp 2], 1),
   (40, rc_slices_insertionSortOrdered_int, [], 3),
   (41, rc_slices_heapSortOrdered_int, [], 3),
   (42, rc_slices_breakPatternsOrdered_int, [], 3),
   (43, rc_slices_choosePivotOrdered_int, [.tmp 6, .tmp 7], 3),
   (44, rc_slices_reverseRangeOrdered_int, [], 3),
   (45, rc_slices_partialInsertionSortOrdered_int, [.tmp 6], 3),
   (46, rc_cmp_Less_int, [.tmp 4], 2),
   (47, rc_slices_partitionEqualOrdered_int, [.tmp 8], 4),
   (48, rc_slices_partitionOrdered_int, [.tmp 8, .tmp 9], 4),
   (49, rc_math_bits_Len32, [.tmp 2], 1),
   (50, rc_math_bits_Len64, [.tmp 2], 1),
   (51, rc_slices_siftDownOrdered_int, [], 4),
   (52, rc_slices_nextPowerOfTwo, [.tmp 2], 1),
   (53, rc_P_slices_xorshift_Next, [.tmp 2], 1),
   (54, rc_slices_medianAdjacentOrdered_int, [.tmp 6], 3),
   (55, rc_slices_medianOrdered_int, [.tmp 10], 5),
   (56, rc_cmp_isNaN_int, [.tmp 2], 1),
   (57, rc_slices_order2Ordered_int, [.tmp 8, .tmp 9], 4)]
theorem tabOk : TabOk Try.prog tab :=
  .cons t_reevelaw10_ForestDepths <|
  .cons t_reevelaw10_ForestCuts <|
  .cons t_reevelaw10_ForestGrows <|
  .cons t_reevelaw10_ForestSays <|
  .cons t_reevelaw10_awake <|
  .cons t_reevelaw10_up <|
  .cons t_forest_Good <|
  .cons t_forest_Depth <|
  .cons t_forest_Kids <|
  .cons t_forest_Below <|
  .cons t_forest_Prune <|
  .cons t_forest_Drop <|
  .cons t_forest_Add <|
  .cons t_reevelaw10_ints <|
  .cons t_forest_Move <|
  .cons t_forest_Order <|
  .cons t_reeveref7_Add <|
  .cons t_reeveref7_Drop <|
  .cons t_reeveref7_Move <|
  .cons t_reeveref7_Prune <|
  .cons t_reeveref7_GoodForest <|
  .cons t_reeveref7_Depth <|
  .cons t_reeveref7_Kids <|
  .cons t_reeveref7_Below <|
  .cons t_reeveref7_Order <|
  .cons t_forest_Forest_is <|
  .cons t_forest_may <|
  .cons t_forest_Forest_of <|
  .cons t_forest_Forest_behind <|
  .cons t_slices_Sort_S_int_int <|
  .cons t_forest_Forest_clone <|
  .cons t_reeveref7_There <|
  .cons t_reeveref7_down <|
  .cons t_slices_pdqsortOrdered_int <|
  .cons t_math_bits_Len <|
  .cons t_slices_Clone_S_int_int <|
  .cons t_slices_insertionSortOrdered_int <|
  .cons t_slices_heapSortOrdered_int <|
  .cons t_slices_breakPatternsOrdered_int <|
  .cons t_slices_choosePivotOrdered_int <|
  .cons t_slices_reverseRangeOrdered_int <|
  .cons t_slices_partialInsertionSortOrdered_int <|
  .cons t_cmp_Less_int <|
  .cons t_slices_partitionEqualOrdered_int <|
  .cons t_slices_partitionOrdered_int <|
  .cons t_math_bits_Len32 <|
  .cons t_math_bits_Len64 <|
  .cons t_slices_siftDownOrdered_int <|
  .cons t_slices_nextPowerOfTwo <|
  .cons t_P_slices_xorshift_Next <|
  .cons t_slices_medianAdjacentOrdered_int <|
  .cons t_slices_medianOrdered_int <|
  .cons t_cmp_isNaN_int <|
  .cons t_slices_order2Ordered_int <| .nil

end Go.Proofs.Ytfcbhgiccgommaa.F10
