/- The program's functions made ready for walking, each with its proof; the types' facts. Written by absgen.py. -/
import Derived.Test.YthigpfognkmegaaProg
import Derived.Test.YthigpfognkmegaaAbsC
set_option linter.unusedVariables false
set_option maxRecDepth 100000
namespace Go.Proofs.Ythigpfognkmegaa.F
open Go Go.Proofs Go.Proofs.YthigpfognkmegaaAbs

theorem hm : Try.prog.follows .mixedOrders = true := by kernel_rfl
theorem ts3 : tsize Try.prog 3 = some 1 := by kernel_rfl
theorem tb3 : tbytes Try.prog 3 = some 8 := by kernel_rfl
theorem ta3 : tagg Try.prog 3 = some false := by kernel_rfl
theorem tz3 : zeroFlat Try.prog 3 = some [.int .i64 0] := by kernel_rfl
theorem tv3 : tzero Try.prog 3 = some (.int .i64 0) := by kernel_rfl
theorem tu3 : Try.prog.underlying 3 = some (.int .i64) := by kernel_rfl
theorem ts4 : tsize Try.prog 4 = some 1 := by kernel_rfl
theorem tb4 : tbytes Try.prog 4 = some 1 := by kernel_rfl
theorem ta4 : tagg Try.prog 4 = some false := by kernel_rfl
theorem tz4 : zeroFlat Try.prog 4 = some [.bool false] := by kernel_rfl
theorem tv4 : tzero Try.prog 4 = some (.bool false) := by kernel_rfl
theorem tu4 : Try.prog.underlying 4 = some (.bool) := by kernel_rfl
theorem ts22 : tsize Try.prog 22 = some 1 := by kernel_rfl
theorem tb22 : tbytes Try.prog 22 = some 24 := by kernel_rfl
theorem ta22 : tagg Try.prog 22 = some false := by kernel_rfl
theorem tz22 : zeroFlat Try.prog 22 = some [.slice none 0 0] := by kernel_rfl
theorem tv22 : tzero Try.prog 22 = some (.slice none 0 0) := by kernel_rfl
theorem tu22 : Try.prog.underlying 22 = some (.slice 34) := by kernel_rfl
theorem ts23 : tsize Try.prog 23 = some 1 := by kernel_rfl
theorem tb23 : tbytes Try.prog 23 = some 8 := by kernel_rfl
theorem ta23 : tagg Try.prog 23 = some false := by kernel_rfl
theorem tz23 : zeroFlat Try.prog 23 = some [.int .u64 0] := by kernel_rfl
theorem tv23 : tzero Try.prog 23 = some (.int .u64 0) := by kernel_rfl
theorem tu23 : Try.prog.underlying 23 = some (.int .u64) := by kernel_rfl
theorem ts26 : tsize Try.prog 26 = some 1 := by kernel_rfl
theorem tb26 : tbytes Try.prog 26 = some 24 := by kernel_rfl
theorem ta26 : tagg Try.prog 26 = some false := by kernel_rfl
theorem tz26 : zeroFlat Try.prog 26 = some [.slice none 0 0] := by kernel_rfl
theorem tv26 : tzero Try.prog 26 = some (.slice none 0 0) := by kernel_rfl
theorem tu26 : Try.prog.underlying 26 = some (.slice 23) := by kernel_rfl
theorem ts34 : tsize Try.prog 34 = some 2 := by kernel_rfl
theorem tb34 : tbytes Try.prog 34 = some 16 := by kernel_rfl
theorem ta34 : tagg Try.prog 34 = some true := by kernel_rfl
theorem tz34 : zeroFlat Try.prog 34 = some [.int .i64 0, .int .i64 0] := by kernel_rfl
theorem tv34 : tzero Try.prog 34 = some (.agg #[.int .i64 0, .int .i64 0]) := by kernel_rfl
theorem tp34 : tplaces Try.prog 34 = some [(0, 1), (1, 1)] := by kernel_rfl
theorem tf34_0 : tfield Try.prog 34 0 = some (3, 0) := by kernel_rfl
theorem tf34_1 : tfield Try.prog 34 1 = some (3, 1) := by kernel_rfl
theorem ts35 : tsize Try.prog 35 = some 1 := by kernel_rfl
theorem tb35 : tbytes Try.prog 35 = some 8 := by kernel_rfl
theorem ta35 : tagg Try.prog 35 = some false := by kernel_rfl
theorem tz35 : zeroFlat Try.prog 35 = some [.int .u64 0] := by kernel_rfl
theorem tv35 : tzero Try.prog 35 = some (.int .u64 0) := by kernel_rfl
theorem tu35 : Try.prog.underlying 35 = some (.int .u64) := by kernel_rfl
theorem ts37 : tsize Try.prog 37 = some 1 := by kernel_rfl
theorem tb37 : tbytes Try.prog 37 = some 8 := by kernel_rfl
theorem ta37 : tagg Try.prog 37 = some false := by kernel_rfl
theorem tz37 : zeroFlat Try.prog 37 = some [.int .u64 0] := by kernel_rfl
theorem tv37 : tzero Try.prog 37 = some (.int .u64 0) := by kernel_rfl
theorem tu37 : Try.prog.underlying 37 = some (.int .u64) := by kernel_rfl
theorem ts45 : tsize Try.prog 45 = some 3 := by kernel_rfl
theorem tb45 : tbytes Try.prog 45 = some 24 := by kernel_rfl
theorem ta45 : tagg Try.prog 45 = some true := by kernel_rfl
theorem tz45 : zeroFlat Try.prog 45 = some [.int .i64 0, .int .i64 0, .int .i64 0] := by kernel_rfl
theorem tv45 : tzero Try.prog 45 = some (.agg #[.int .i64 0, .int .i64 0, .int .i64 0]) := by kernel_rfl
theorem tp45 : tplaces Try.prog 45 = some [(0, 1), (1, 1), (2, 1)] := by kernel_rfl
theorem tf45_0 : tfield Try.prog 45 0 = some (3, 0) := by kernel_rfl
theorem tf45_1 : tfield Try.prog 45 1 = some (3, 1) := by kernel_rfl
theorem tf45_2 : tfield Try.prog 45 2 = some (3, 2) := by kernel_rfl
theorem ts46 : tsize Try.prog 46 = some 1 := by kernel_rfl
theorem tb46 : tbytes Try.prog 46 = some 24 := by kernel_rfl
theorem ta46 : tagg Try.prog 46 = some false := by kernel_rfl
theorem tz46 : zeroFlat Try.prog 46 = some [.slice none 0 0] := by kernel_rfl
theorem tv46 : tzero Try.prog 46 = some (.slice none 0 0) := by kernel_rfl
theorem tu46 : Try.prog.underlying 46 = some (.slice 45) := by kernel_rfl
theorem ts53 : tsize Try.prog 53 = some 3 := by kernel_rfl
theorem tb53 : tbytes Try.prog 53 = some 24 := by kernel_rfl
theorem ta53 : tagg Try.prog 53 = some true := by kernel_rfl
theorem tz53 : zeroFlat Try.prog 53 = some [.int .i64 0, .int .i64 0, .int .i64 0] := by kernel_rfl
theorem tv53 : tzero Try.prog 53 = some (.agg #[.int .i64 0, .int .i64 0, .int .i64 0]) := by kernel_rfl
theorem tp53 : tplaces Try.prog 53 = some [(0, 1), (1, 1), (2, 1)] := by kernel_rfl
theorem tf53_0 : tfield Try.prog 53 0 = some (3, 0) := by kernel_rfl
theorem tf53_1 : tfield Try.prog 53 1 = some (3, 1) := by kernel_rfl
theorem tf53_2 : tfield Try.prog 53 2 = some (3, 2) := by kernel_rfl
theorem ts60 : tsize Try.prog 60 = some 1 := by kernel_rfl
theorem tb60 : tbytes Try.prog 60 = some 24 := by kernel_rfl
theorem ta60 : tagg Try.prog 60 = some false := by kernel_rfl
theorem tz60 : zeroFlat Try.prog 60 = some [.slice none 0 0] := by kernel_rfl
theorem tv60 : tzero Try.prog 60 = some (.slice none 0 0) := by kernel_rfl
theorem tu60 : Try.prog.underlying 60 = some (.slice 4) := by kernel_rfl
theorem ts62 : tsize Try.prog 62 = some 1 := by kernel_rfl
theorem tb62 : tbytes Try.prog 62 = some 24 := by kernel_rfl
theorem ta62 : tagg Try.prog 62 = some false := by kernel_rfl
theorem tz62 : zeroFlat Try.prog 62 = some [.slice none 0 0] := by kernel_rfl
theorem tv62 : tzero Try.prog 62 = some (.slice none 0 0) := by kernel_rfl
theorem tu62 : Try.prog.underlying 62 = some (.slice 22) := by kernel_rfl
theorem ts63 : tsize Try.prog 63 = some 1 := by kernel_rfl
theorem tb63 : tbytes Try.prog 63 = some 24 := by kernel_rfl
theorem ta63 : tagg Try.prog 63 = some false := by kernel_rfl
theorem tz63 : zeroFlat Try.prog 63 = some [.slice none 0 0] := by kernel_rfl
theorem tv63 : tzero Try.prog 63 = some (.slice none 0 0) := by kernel_rfl
theorem tu63 : Try.prog.underlying 63 = some (.slice 73) := by kernel_rfl
theorem ts73 : tsize Try.prog 73 = some 2 := by kernel_rfl
theorem tb73 : tbytes Try.prog 73 = some 16 := by kernel_rfl
theorem ta73 : tagg Try.prog 73 = some true := by kernel_rfl
theorem tz73 : zeroFlat Try.prog 73 = some [.int .i64 0, .int .i64 0] := by kernel_rfl
theorem tv73 : tzero Try.prog 73 = some (.agg #[.int .i64 0, .int .i64 0]) := by kernel_rfl
theorem tu73 : Try.prog.underlying 73 = some (.array 2 3) := by kernel_rfl
theorem ts75 : tsize Try.prog 75 = some 64 := by kernel_rfl
theorem tb75 : tbytes Try.prog 75 = some 64 := by kernel_rfl
theorem ta75 : tagg Try.prog 75 = some true := by kernel_rfl
theorem tu75 : Try.prog.underlying 75 = some (.array 64 4) := by kernel_rfl

/-- reeve/reevelaw4.TagBack -/
def rc3 : RCode :=
  (.seq
    (.region [⟨some 4, .none, true, 4, .assign (.const (.bool false))⟩])
  (.keep [0, 1]
  (.seq
    (.seq
      (.region [⟨some 9, .none, true, 4, .call { callee := .value (.func 11), args := #[], argTypes := #[] }⟩,
        ⟨some 10, .none, true, 4, .unOp .not 4 (.tmp 9)⟩])
    (.keep [0, 1, 10]
    (.cond (.tmp 10)
      (.seq
        (.region [⟨some 4, .none, true, 4, .assign (.const (.bool false))⟩])
      .ret)
      .skip)))
  (.seq
    (.seq
      (.region [⟨some 11, .none, true, 22, .move (.tmp 0)⟩,
        ⟨some 12, .none, true, 3, .call { callee := .builtin .len, args := #[.tmp 11], argTypes := #[22] }⟩,
        ⟨some 13, .none, true, 4, .binOp .gtr 3 (.tmp 12) (.const (.int .i64 70)) 3⟩,
        ⟨some 14, .none, true, 4, .move (.tmp 13)⟩,
        ⟨some 15, .some 14 false, true, 22, .move (.tmp 0)⟩,
        ⟨some 16, .some 14 false, true, 4, .call { callee := .value (.func 12), args := #[.tmp 15], argTypes := #[22] }⟩,
        ⟨some 17, .some 14 false, true, 4, .unOp .not 4 (.tmp 16)⟩,
        ⟨some 18, .none, true, 4, .pick (.tmp 14) (.const (.bool true)) (.tmp 17)⟩])
    (.keep [0, 1, 18]
    (.cond (.tmp 18)
      (.seq
        (.region [⟨some 4, .none, true, 4, .assign (.const (.bool true))⟩])
      .ret)
      .skip)))
  (.seq
    (.region [⟨some 19, .none, true, 23, .move (.tmp 1)⟩,
      ⟨some 20, .none, true, 22, .move (.tmp 0)⟩,
      ⟨some 21, .none, true, 26, .call { callee := .value (.func 13), args := #[.tmp 19, .tmp 20], argTypes := #[23, 22] }⟩,
      ⟨some 5, .none, true, 26, .assign (.tmp 21)⟩])
  (.keep [0, 1, 5]
  (.seq
    (.region [⟨some 23, .none, true, 22, .move (.tmp 0)⟩,
      ⟨some 24, .none, true, 26, .move (.tmp 5)⟩,
      ⟨some 25, .none, true, 28, .call { callee := .value (.func 14), args := #[.tmp 23, .tmp 24], argTypes := #[22, 26] }⟩,
      ⟨some 22, .none, true, 28, .move (.tmp 25)⟩,
      ⟨some 26, .none, true, 23, .extract (.tmp 22) 0⟩,
      ⟨some 27, .none, true, 4, .extract (.tmp 22) 1⟩,
      ⟨some 6, .none, true, 23, .assign (.tmp 26)⟩,
      ⟨some 7, .none, true, 4, .assign (.tmp 27)⟩])
  (.keep [0, 1, 5, 6, 7]
  (.seq
    (.region [⟨some 28, .none, true, 23, .move (.tmp 1)⟩,
      ⟨some 29, .none, true, 22, .move (.tmp 0)⟩,
      ⟨some 30, .none, true, 23, .call { callee := .value (.func 15), args := #[.tmp 28, .tmp 29], argTypes := #[23, 22] }⟩,
      ⟨some 8, .none, true, 23, .assign (.tmp 30)⟩])
  (.keep [0, 1, 5, 6, 7, 8]
  (.seq
    (.region [⟨some 31, .none, true, 4, .move (.tmp 7)⟩,
      ⟨some 32, .none, true, 4, .move (.tmp 31)⟩,
      ⟨some 33, .some 32 true, true, 23, .move (.tmp 6)⟩,
      ⟨some 34, .some 32 true, true, 23, .move (.tmp 8)⟩,
      ⟨some 35, .some 32 true, true, 23, .binOp .or 23 (.tmp 33) (.tmp 34) 23⟩,
      ⟨some 36, .some 32 true, true, 23, .move (.tmp 1)⟩,
      ⟨some 37, .some 32 true, true, 4, .binOp .eql 23 (.tmp 35) (.tmp 36) 23⟩,
      ⟨some 38, .none, true, 4, .pick (.tmp 32) (.tmp 37) (.const (.bool false))⟩,
      ⟨some 39, .none, true, 4, .move (.tmp 38)⟩,
      ⟨some 40, .some 39 true, true, 23, .move (.tmp 6)⟩,
      ⟨some 41, .some 39 true, true, 23, .move (.tmp 8)⟩,
      ⟨some 42, .some 39 true, true, 23, .binOp .and 23 (.tmp 40) (.tmp 41) 23⟩,
      ⟨some 43, .some 39 true, true, 4, .binOp .eql 23 (.tmp 42) (.const (.int .u64 0)) 23⟩,
      ⟨some 44, .none, true, 4, .pick (.tmp 39) (.tmp 43) (.const (.bool false))⟩,
      ⟨some 45, .none, true, 4, .move (.tmp 44)⟩,
      ⟨some 46, .some 45 true, true, 23, .move (.tmp 6)⟩,
      ⟨some 47, .some 45 true, true, 22, .move (.tmp 0)⟩,
      ⟨some 48, .some 45 true, true, 26, .call { callee := .value (.func 13), args := #[.tmp 46, .tmp 47], argTypes := #[23, 22] }⟩,
      ⟨some 49, .some 45 true, true, 26, .move (.tmp 5)⟩,
      ⟨some 50, .some 45 true, true, 4, .call { callee := .value (.func 16), args := #[.tmp 48, .tmp 49], argTypes := #[26, 26] }⟩,
      ⟨some 51, .none, true, 4, .pick (.tmp 45) (.tmp 50) (.const (.bool false))⟩,
      ⟨some 52, .none, true, 4, .move (.tmp 51)⟩,
      ⟨some 53, .some 52 true, true, 23, .move (.tmp 6)⟩,
      ⟨some 54, .some 52 true, true, 22, .move (.tmp 0)⟩,
      ⟨some 55, .some 52 true, true, 23, .call { callee := .value (.func 15), args := #[.tmp 53, .tmp 54], argTypes := #[23, 22] }⟩,
      ⟨some 56, .some 52 true, true, 4, .binOp .eql 23 (.tmp 55) (.const (.int .u64 0)) 23⟩,
      ⟨some 57, .none, true, 4, .pick (.tmp 52) (.tmp 56) (.const (.bool false))⟩,
      ⟨some 4, .none, true, 4, .assign (.tmp 57)⟩])
  .ret)))))))))))
theorem t3 : FnT Try.prog 3 rc3 [.tmp 4] 2 := ⟨⟨Try.f3, _, Try.func3, rfl, by kernel_rfl, by kernel_rfl, by kernel_rfl, rfl, by decide⟩, by kernel_rfl⟩
/-- reeve/reevelaw4.TagSet -/
def rc4 : RCode :=
  (.seq
    (.region [⟨some 8, .none, true, 4, .assign (.const (.bool false))⟩])
  (.keep [0, 1, 2, 3]
  (.seq
    (.seq
      (.region [⟨some 13, .none, true, 4, .call { callee := .value (.func 11), args := #[], argTypes := #[] }⟩,
        ⟨some 14, .none, true, 4, .unOp .not 4 (.tmp 13)⟩])
    (.keep [0, 1, 2, 3, 14]
    (.cond (.tmp 14)
      (.seq
        (.region [⟨some 8, .none, true, 4, .assign (.const (.bool false))⟩])
      .ret)
      .skip)))
  (.seq
    (.seq
      (.region [⟨some 15, .none, true, 22, .move (.tmp 0)⟩,
        ⟨some 16, .none, true, 3, .call { callee := .builtin .len, args := #[.tmp 15], argTypes := #[22] }⟩,
        ⟨some 17, .none, true, 4, .binOp .gtr 3 (.tmp 16) (.const (.int .i64 70)) 3⟩,
        ⟨some 18, .none, true, 4, .move (.tmp 17)⟩,
        ⟨some 19, .some 18 false, true, 22, .move (.tmp 0)⟩,
        ⟨some 20, .some 18 false, true, 4, .call { callee := .value (.func 12), args := #[.tmp 19], argTypes := #[22] }⟩,
        ⟨some 21, .some 18 false, true, 4, .unOp .not 4 (.tmp 20)⟩,
        ⟨some 22, .none, true, 4, .pick (.tmp 18) (.const (.bool true)) (.tmp 21)⟩,
        ⟨some 23, .none, true, 4, .move (.tmp 22)⟩,
        ⟨some 24, .some 23 false, true, 3, .move (.tmp 2)⟩,
        ⟨some 25, .some 23 false, true, 4, .binOp .lss 3 (.tmp 24) (.const (.int .i64 0)) 3⟩,
        ⟨some 26, .none, true, 4, .pick (.tmp 23) (.const (.bool true)) (.tmp 25)⟩,
        ⟨some 27, .none, true, 4, .move (.tmp 26)⟩,
        ⟨some 28, .some 27 false, true, 3, .move (.tmp 2)⟩,
        ⟨some 29, .some 27 false, true, 22, .move (.tmp 0)⟩,
        ⟨some 30, .some 27 false, true, 3, .call { callee := .builtin .len, args := #[.tmp 29], argTypes := #[22] }⟩,
        ⟨some 31, .some 27 false, true, 4, .binOp .geq 3 (.tmp 28) (.tmp 30) 3⟩,
        ⟨some 32, .none, true, 4, .pick (.tmp 27) (.const (.bool true)) (.tmp 31)⟩])
    (.keep [0, 1, 2, 3, 32]
    (.cond (.tmp 32)
      (.seq
        (.region [⟨some 8, .none, true, 4, .assign (.const (.bool true))⟩])
      .ret)
      .skip)))
  (.seq
    (.region [⟨some 33, .none, true, 23, .move (.tmp 1)⟩,
      ⟨some 34, .none, true, 22, .move (.tmp 0)⟩,
      ⟨some 35, .none, true, 26, .call { callee := .value (.func 13), args := #[.tmp 33, .tmp 34], argTypes := #[23, 22] }⟩,
      ⟨some 9, .none, true, 26, .assign (.tmp 35)⟩])
  (.keep [0, 1, 2, 3, 9]
  (.seq
    (.seq
      (.region [⟨some 36, .none, true, 26, .move (.tmp 9)⟩,
        ⟨some 37, .none, true, 3, .call { callee := .builtin .len, args := #[.tmp 36], argTypes := #[26] }⟩,
        ⟨some 38, .none, true, 22, .move (.tmp 0)⟩,
        ⟨some 39, .none, true, 3, .call { callee := .builtin .len, args := #[.tmp 38], argTypes := #[22] }⟩,
        ⟨some 40, .none, true, 4, .binOp .neq 3 (.tmp 37) (.tmp 39) 3⟩])
    (.keep [0, 1, 2, 3, 9, 40]
    (.cond (.tmp 40)
      (.seq
        (.region [⟨some 8, .none, true, 4, .assign (.const (.bool false))⟩])
      .ret)
      .skip)))
  (.seq
    (.region [⟨some 41, .none, true, 26, .buildSlice 26 0 #[]⟩,
      ⟨some 42, .none, true, 26, .move (.tmp 9)⟩,
      ⟨some 43, .none, true, 26, .call { callee := .builtin .append, args := #[.tmp 41, .tmp 42], argTypes := #[26, 26] }⟩,
      ⟨some 10, .none, true, 26, .assign (.tmp 43)⟩])
  (.keep [0, 1, 2, 3, 10]
  (.seq
    (.region [⟨some 44, .none, true, 26, .move (.tmp 10)⟩,
      ⟨some 45, .none, true, 3, .move (.tmp 2)⟩,
      ⟨some 46, .none, true, 23, .move (.tmp 3)⟩,
      ⟨some 47, .none, true, 0, .indexAddr 26 (.tmp 44) (.tmp 45)⟩,
      ⟨none, .none, true, 0, .store 23 (.tmp 47) (.tmp 46)⟩])
  (.keep [0, 1, 2, 3, 10]
  (.seq
    (.region [⟨some 49, .none, true, 22, .move (.tmp 0)⟩,
      ⟨some 50, .none, true, 26, .move (.tmp 10)⟩,
      ⟨some 51, .none, true, 28, .call { callee := .value (.func 14), args := #[.tmp 49, .tmp 50], argTypes := #[22, 26] }⟩,
      ⟨some 48, .none, true, 28, .move (.tmp 51)⟩,
      ⟨some 52, .none, true, 23, .extract (.tmp 48) 0⟩,
      ⟨some 53, .none, true, 4, .extract (.tmp 48) 1⟩,
      ⟨some 11, .none, true, 23, .assign (.tmp 52)⟩,
      ⟨some 12, .none, true, 4, .assign (.tmp 53)⟩])
  (.keep [0, 1, 2, 3, 10, 11, 12]
  (.seq
    (.seq
      (.region [⟨some 54, .none, true, 4, .move (.tmp 12)⟩,
        ⟨some 55, .none, true, 4, .unOp .not 4 (.tmp 54)⟩])
    (.keep [0, 1, 2, 3, 10, 11, 55]
    (.cond (.tmp 55)
      (.seq
        (.region [⟨some 56, .none, true, 22, .move (.tmp 0)⟩,
          ⟨some 57, .none, true, 3, .move (.tmp 2)⟩,
          ⟨some 58, .none, true, 0, .indexAddr 22 (.tmp 56) (.tmp 57)⟩,
          ⟨some 59, .none, true, 0, .fieldAddr 34 (.tmp 58) 1⟩,
          ⟨some 60, .none, true, 3, .load 3 (.tmp 59)⟩,
          ⟨some 61, .none, true, 4, .binOp .lss 3 (.tmp 60) (.const (.int .i64 64)) 3⟩,
          ⟨some 62, .none, true, 4, .move (.tmp 61)⟩,
          ⟨some 63, .some 62 true, true, 23, .move (.tmp 3)⟩,
          ⟨some 64, .some 62 true, true, 22, .move (.tmp 0)⟩,
          ⟨some 65, .some 62 true, true, 3, .move (.tmp 2)⟩,
          ⟨some 66, .some 62 true, true, 0, .indexAddr 22 (.tmp 64) (.tmp 65)⟩,
          ⟨some 67, .some 62 true, true, 0, .fieldAddr 34 (.tmp 66) 1⟩,
          ⟨some 68, .some 62 true, true, 3, .load 3 (.tmp 67)⟩,
          ⟨some 69, .some 62 true, true, 35, .convert 3 35 (.tmp 68)⟩,
          ⟨some 70, .some 62 true, true, 23, .binOp .shr 23 (.tmp 63) (.tmp 69) 35⟩,
          ⟨some 71, .some 62 true, true, 4, .binOp .neq 23 (.tmp 70) (.const (.int .u64 0)) 23⟩,
          ⟨some 72, .none, true, 4, .pick (.tmp 62) (.tmp 71) (.const (.bool false))⟩,
          ⟨some 8, .none, true, 4, .assign (.tmp 72)⟩])
      .ret)
      .skip)))
  (.seq
    (.region [⟨some 73, .none, true, 23, .move (.tmp 11)⟩,
      ⟨some 74, .none, true, 23, .move (.tmp 1)⟩,
      ⟨some 75, .none, true, 22, .move (.tmp 0)⟩,
      ⟨some 76, .none, true, 23, .call { callee := .value (.func 15), args := #[.tmp 74, .tmp 75], argTypes := #[23, 22] }⟩,
      ⟨some 77, .none, true, 23, .binOp .or 23 (.tmp 73) (.tmp 76) 23⟩,
      ⟨some 78, .none, true, 22, .move (.tmp 0)⟩,
      ⟨some 79, .none, true, 26, .call { callee := .value (.func 13), args := #[.tmp 77, .tmp 78], argTypes := #[23, 22] }⟩,
      ⟨some 80, .none, true, 26, .move (.tmp 10)⟩,
      ⟨some 81, .none, true, 4, .call { callee := .value (.func 16), args := #[.tmp 79, .tmp 80], argTypes := #[26, 26] }⟩,
      ⟨some 8, .none, true, 4, .assign (.tmp 81)⟩])
  .ret)))))))))))))))
theorem t4 : FnT Try.prog 4 rc4 [.tmp 8] 4 := ⟨⟨Try.f4, _, Try.func4, rfl, by kernel_rfl, by kernel_rfl, by kernel_rfl, rfl, by decide⟩, by kernel_rfl⟩
/-- reeve/reevelaw4.TagVersions -/
def rc5l0 : RCode :=
  (.seq
    (.seq
      (.region [⟨some 30, .none, true, 3, .move (.tmp 9)⟩,
        ⟨some 31, .none, true, 3, .move (.tmp 2)⟩,
        ⟨some 32, .none, true, 4, .binOp .lss 3 (.tmp 30) (.tmp 31) 3⟩])
    (.keep [1, 2, 7, 9, 32]
    (.cond (.tmp 32)
      .skip
      (.exit 0))))
  (.seq
    (.block 1
      (.seq
        (.region [⟨some 36, .none, true, 37, .move (.tmp 7)⟩,
          ⟨some 37, .none, true, 3, .move (.tmp 9)⟩,
          ⟨some 38, .none, true, 23, .convert 3 23 (.tmp 37)⟩,
          ⟨some 39, .none, true, 38, .call { callee := .value (.func 18), args := #[.tmp 36, .tmp 38], argTypes := #[37, 23] }⟩,
          ⟨some 35, .none, true, 38, .move (.tmp 39)⟩,
          ⟨some 40, .none, true, 37, .extract (.tmp 35) 0⟩,
          ⟨some 41, .none, true, 4, .extract (.tmp 35) 1⟩,
          ⟨some 10, .none, true, 37, .assign (.tmp 40)⟩,
          ⟨some 11, .none, true, 4, .assign (.tmp 41)⟩])
      (.keep [1, 2, 9, 10, 11]
      (.seq
        (.seq
          (.region [⟨some 42, .none, true, 4, .move (.tmp 11)⟩,
            ⟨some 43, .none, true, 4, .unOp .not 4 (.tmp 42)⟩,
            ⟨some 44, .none, true, 4, .move (.tmp 43)⟩,
            ⟨some 45, .some 44 false, true, 37, .move (.tmp 10)⟩,
            ⟨some 46, .some 44 false, true, 23, .call { callee := .value (.func 19), args := #[.tmp 45], argTypes := #[37] }⟩,
            ⟨some 47, .some 44 false, true, 3, .move (.tmp 9)⟩,
            ⟨some 48, .some 44 false, true, 23, .convert 3 23 (.tmp 47)⟩,
            ⟨some 49, .some 44 false, true, 4, .binOp .neq 23 (.tmp 46) (.tmp 48) 23⟩,
            ⟨some 50, .none, true, 4, .pick (.tmp 44) (.const (.bool true)) (.tmp 49)⟩])
        (.keep [1, 2, 9, 10, 50]
        (.cond (.tmp 50)
          (.seq
            (.region [⟨some 6, .none, true, 4, .assign (.const (.bool false))⟩])
          .ret)
          .skip)))
      (.region [⟨some 51, .none, true, 37, .move (.tmp 10)⟩,
        ⟨some 7, .none, true, 37, .assign (.tmp 51)⟩])))))
  (.keep [1, 2, 7, 9]
  (.region [⟨some 33, .none, true, 3, .move (.tmp 9)⟩,
    ⟨some 34, .none, true, 3, .binOp .add 3 (.tmp 33) (.const (.int .i64 1)) 3⟩,
    ⟨some 9, .none, true, 3, .assign (.tmp 34)⟩]))))
def rc5 : RCode :=
  (.seq
    (.region [⟨some 6, .none, true, 4, .assign (.const (.bool false))⟩])
  (.keep [0, 1, 2]
  (.seq
    (.seq
      (.region [⟨some 12, .none, true, 4, .call { callee := .value (.func 11), args := #[], argTypes := #[] }⟩,
        ⟨some 13, .none, true, 4, .unOp .not 4 (.tmp 12)⟩])
    (.keep [0, 1, 2, 13]
    (.cond (.tmp 13)
      (.seq
        (.region [⟨some 6, .none, true, 4, .assign (.const (.bool false))⟩])
      .ret)
      .skip)))
  (.seq
    (.region [⟨some 15, .none, true, 23, .move (.tmp 0)⟩,
      ⟨some 16, .none, true, 3, .move (.tmp 1)⟩,
      ⟨some 17, .none, true, 38, .call { callee := .value (.func 17), args := #[.tmp 15, .tmp 16], argTypes := #[23, 3] }⟩,
      ⟨some 14, .none, true, 38, .move (.tmp 17)⟩,
      ⟨some 18, .none, true, 37, .extract (.tmp 14) 0⟩,
      ⟨some 19, .none, true, 4, .extract (.tmp 14) 1⟩,
      ⟨some 7, .none, true, 37, .assign (.tmp 18)⟩,
      ⟨some 8, .none, true, 4, .assign (.tmp 19)⟩])
  (.keep [1, 2, 7, 8]
  (.seq
    (.seq
      (.region [⟨some 20, .none, true, 4, .move (.tmp 8)⟩,
        ⟨some 21, .none, true, 4, .unOp .not 4 (.tmp 20)⟩,
        ⟨some 22, .none, true, 4, .move (.tmp 21)⟩,
        ⟨some 23, .some 22 false, true, 3, .move (.tmp 2)⟩,
        ⟨some 24, .some 22 false, true, 4, .binOp .lss 3 (.tmp 23) (.const (.int .i64 0)) 3⟩,
        ⟨some 25, .none, true, 4, .pick (.tmp 22) (.const (.bool true)) (.tmp 24)⟩,
        ⟨some 26, .none, true, 4, .move (.tmp 25)⟩,
        ⟨some 27, .some 26 false, true, 3, .move (.tmp 2)⟩,
        ⟨some 28, .some 26 false, true, 4, .binOp .gtr 3 (.tmp 27) (.const (.int .i64 70)) 3⟩,
        ⟨some 29, .none, true, 4, .pick (.tmp 26) (.const (.bool true)) (.tmp 28)⟩])
    (.keep [1, 2, 7, 29]
    (.cond (.tmp 29)
      (.seq
        (.region [⟨some 6, .none, true, 4, .assign (.const (.bool true))⟩])
      .ret)
      .skip)))
  (.seq
    (.seq
      (.region [⟨some 9, .none, true, 3, .assign (.const (.int .i64 0))⟩])
    (.keep [1, 2, 7, 9]
    (.block 0
      (.loop [1, 2, 7, 9] rc5l0))))
  (.seq
    (.region [⟨some 52, .none, true, 37, .move (.tmp 7)⟩,
      ⟨some 53, .none, true, 3, .call { callee := .value (.func 20), args := #[.tmp 52], argTypes := #[37] }⟩,
      ⟨some 54, .none, true, 3, .move (.tmp 1)⟩,
      ⟨some 55, .none, true, 3, .move (.tmp 2)⟩,
      ⟨some 56, .none, true, 3, .binOp .add 3 (.tmp 54) (.tmp 55) 3⟩,
      ⟨some 57, .none, true, 3, .binOp .rem 3 (.tmp 56) (.const (.int .i64 65536)) 3⟩,
      ⟨some 58, .none, true, 4, .binOp .eql 3 (.tmp 53) (.tmp 57) 3⟩,
      ⟨some 6, .none, true, 4, .assign (.tmp 58)⟩])
  .ret))))))))
theorem t5 : FnT Try.prog 5 rc5 [.tmp 6] 3 := ⟨⟨Try.f5, _, Try.func5, rfl, by kernel_rfl, by kernel_rfl, by kernel_rfl, rfl, by decide⟩, by kernel_rfl⟩
/-- reeve/reevelaw5.GeoKnown -/
def rc6l0 : RCode :=
  (.seq
    (.seq
      (.region [⟨some 20, .none, true, 3, .move (.tmp 2)⟩,
        ⟨some 21, .none, true, 46, .move (.tmp 1)⟩,
        ⟨some 22, .none, true, 3, .call { callee := .builtin .len, args := #[.tmp 21], argTypes := #[46] }⟩,
        ⟨some 23, .none, true, 4, .binOp .lss 3 (.tmp 20) (.tmp 22) 3⟩])
    (.keep [1, 2, 23]
    (.cond (.tmp 23)
      .skip
      (.exit 0))))
  (.seq
    (.block 1
      (.seq
        (.region [⟨some 27, .none, true, 46, .move (.tmp 1)⟩,
          ⟨some 28, .none, true, 3, .move (.tmp 2)⟩,
          ⟨some 29, .none, true, 0, .indexAddr 46 (.tmp 27) (.tmp 28)⟩,
          ⟨some 30, .none, true, 45, .load 45 (.tmp 29)⟩,
          ⟨some 31, .none, true, 47, .call { callee := .value (.func 22), args := #[.tmp 30, .const (.int .i64 0)], argTypes := #[45, 3] }⟩,
          ⟨some 26, .none, true, 47, .move (.tmp 31)⟩,
          ⟨some 32, .none, true, 3, .extract (.tmp 26) 0⟩,
          ⟨some 33, .none, true, 3, .extract (.tmp 26) 1⟩,
          ⟨some 3, .none, true, 3, .assign (.tmp 32)⟩,
          ⟨some 4, .none, true, 3, .assign (.tmp 33)⟩])
      (.keep [1, 2, 3, 4]
      (.seq
        (.region [⟨some 34, .none, true, 46, .move (.tmp 1)⟩,
          ⟨some 35, .none, true, 3, .move (.tmp 2)⟩,
          ⟨some 36, .none, true, 0, .indexAddr 46 (.tmp 34) (.tmp 35)⟩,
          ⟨some 37, .none, true, 45, .load 45 (.tmp 36)⟩,
          ⟨some 38, .none, true, 4, .call { callee := .value (.func 23), args := #[.tmp 37], argTypes := #[45] }⟩,
          ⟨some 39, .none, true, 4, .move (.tmp 38)⟩,
          ⟨some 40, .some 39 false, true, 46, .move (.tmp 1)⟩,
          ⟨some 41, .some 39 false, true, 3, .move (.tmp 2)⟩,
          ⟨some 42, .some 39 false, true, 0, .indexAddr 46 (.tmp 40) (.tmp 41)⟩,
          ⟨some 43, .some 39 false, true, 45, .load 45 (.tmp 42)⟩,
          ⟨some 44, .some 39 false, true, 3, .call { callee := .value (.func 24), args := #[.tmp 43], argTypes := #[45] }⟩,
          ⟨some 45, .some 39 false, true, 4, .binOp .neq 3 (.tmp 44) (.const (.int .i64 0)) 3⟩,
          ⟨some 46, .none, true, 4, .pick (.tmp 39) (.const (.bool true)) (.tmp 45)⟩,
          ⟨some 47, .none, true, 4, .move (.tmp 46)⟩,
          ⟨some 48, .some 47 false, true, 46, .move (.tmp 1)⟩,
          ⟨some 49, .some 47 false, true, 3, .move (.tmp 2)⟩,
          ⟨some 50, .some 47 false, true, 0, .indexAddr 46 (.tmp 48) (.tmp 49)⟩,
          ⟨some 51, .some 47 false, true, 45, .load 45 (.tmp 50)⟩,
          ⟨some 52, .some 47 false, true, 3, .call { callee := .value (.func 25), args := #[.tmp 51], argTypes := #[45] }⟩,
          ⟨some 53, .some 47 false, true, 4, .binOp .neq 3 (.tmp 52) (.const (.int .i64 0)) 3⟩,
          ⟨some 54, .none, true, 4, .pick (.tmp 47) (.const (.bool true)) (.tmp 53)⟩,
          ⟨some 55, .none, true, 4, .move (.tmp 54)⟩,
          ⟨some 56, .some 55 false, true, 3, .move (.tmp 3)⟩,
          ⟨some 57, .some 55 false, true, 4, .binOp .neq 3 (.tmp 56) (.const (.int .i64 0)) 3⟩,
          ⟨some 58, .none, true, 4, .pick (.tmp 55) (.const (.bool true)) (.tmp 57)⟩,
          ⟨some 59, .none, true, 4, .move (.tmp 58)⟩,
          ⟨some 60, .some 59 false, true, 3, .move (.tmp 4)⟩,
          ⟨some 61, .some 59 false, true, 4, .binOp .neq 3 (.tmp 60) (.const (.int .i64 0)) 3⟩,
          ⟨some 62, .none, true, 4, .pick (.tmp 59) (.const (.bool true)) (.tmp 61)⟩,
          ⟨some 63, .none, true, 4, .move (.tmp 62)⟩,
          ⟨some 64, .some 63 false, true, 46, .move (.tmp 1)⟩,
          ⟨some 65, .some 63 false, true, 3, .move (.tmp 2)⟩,
          ⟨some 66, .some 63 false, true, 0, .indexAddr 46 (.tmp 64) (.tmp 65)⟩,
          ⟨some 67, .some 63 false, true, 45, .load 45 (.tmp 66)⟩,
          ⟨some 68, .some 63 false, true, 3, .call { callee := .value (.func 26), args := #[.tmp 67, .const (.int .i64 0)], argTypes := #[45, 3] }⟩,
          ⟨some 69, .some 63 false, true, 4, .binOp .neq 3 (.tmp 68) (.const (.int .i64 0)) 3⟩,
          ⟨some 70, .none, true, 4, .pick (.tmp 63) (.const (.bool true)) (.tmp 69)⟩,
          ⟨some 71, .none, true, 4, .move (.tmp 70)⟩,
          ⟨some 72, .some 71 false, true, 46, .move (.tmp 1)⟩,
          ⟨some 73, .some 71 false, true, 3, .move (.tmp 2)⟩,
          ⟨some 74, .some 71 false, true, 0, .indexAddr 46 (.tmp 72) (.tmp 73)⟩,
          ⟨some 75, .some 71 false, true, 45, .load 45 (.tmp 74)⟩,
          ⟨some 76, .some 71 false, true, 3, .call { callee := .value (.func 27), args := #[.tmp 75, .const (.int .i64 0)], argTypes := #[45, 3] }⟩,
          ⟨some 77, .some 71 false, true, 4, .binOp .neq 3 (.tmp 76) (.const (.int .i64 0)) 3⟩,
          ⟨some 78, .none, true, 4, .pick (.tmp 71) (.const (.bool true)) (.tmp 77)⟩,
          ⟨some 79, .none, true, 4, .move (.tmp 78)⟩,
          ⟨some 80, .some 79 false, true, 46, .move (.tmp 1)⟩,
          ⟨some 81, .some 79 false, true, 3, .move (.tmp 2)⟩,
          ⟨some 82, .some 79 false, true, 0, .indexAddr 46 (.tmp 80) (.tmp 81)⟩,
          ⟨some 83, .some 79 false, true, 45, .load 45 (.tmp 82)⟩,
          ⟨some 84, .some 79 false, true, 3, .call { callee := .value (.func 28), args := #[.tmp 83], argTypes := #[45] }⟩,
          ⟨some 85, .some 79 false, true, 4, .binOp .neq 3 (.tmp 84) (.const (.int .i64 0)) 3⟩,
          ⟨some 86, .none, true, 4, .pick (.tmp 79) (.const (.bool true)) (.tmp 85)⟩,
          ⟨some 87, .none, true, 4, .move (.tmp 86)⟩,
          ⟨some 88, .some 87 false, true, 46, .move (.tmp 1)⟩,
          ⟨some 89, .some 87 false, true, 3, .move (.tmp 2)⟩,
          ⟨some 90, .some 87 false, true, 0, .indexAddr 46 (.tmp 88) (.tmp 89)⟩,
          ⟨some 91, .some 87 false, true, 45, .load 45 (.tmp 90)⟩,
          ⟨some 92, .some 87 false, true, 3, .call { callee := .value (.func 29), args := #[.tmp 91, .const (.int .i64 0)], argTypes := #[45, 3] }⟩,
          ⟨some 93, .some 87 false, true, 4, .binOp .neq 3 (.tmp 92) (.const (.int .i64 0)) 3⟩,
          ⟨some 94, .none, true, 4, .pick (.tmp 87) (.const (.bool true)) (.tmp 93)⟩])
      (.keep [1, 2, 94]
      (.cond (.tmp 94)
        (.seq
          (.region [⟨some 0, .none, true, 4, .assign (.const (.bool false))⟩])
        .ret)
        .skip))))))
  (.keep [1, 2]
  (.region [⟨some 24, .none, true, 3, .move (.tmp 2)⟩,
    ⟨some 25, .none, true, 3, .binOp .add 3 (.tmp 24) (.const (.int .i64 1)) 3⟩,
    ⟨some 2, .none, true, 3, .assign (.tmp 25)⟩]))))
def rc6 : RCode :=
  (.seq
    (.region [⟨some 0, .none, true, 4, .assign (.const (.bool false))⟩])
  (.keep []
  (.seq
    (.seq
      (.region [⟨some 10, .none, true, 4, .call { callee := .value (.func 21), args := #[], argTypes := #[] }⟩,
        ⟨some 11, .none, true, 4, .unOp .not 4 (.tmp 10)⟩])
    (.keep [11]
    (.cond (.tmp 11)
      (.seq
        (.region [⟨some 0, .none, true, 4, .assign (.const (.bool false))⟩])
      .ret)
      .skip)))
  (.seq
    (.region [⟨some 12, .none, true, 45, .build 45 #[]⟩,
      ⟨some 13, .none, true, 45, .build 45 #[(0, .const (.int .i64 5)), (1, .const (.int .i64 96)), (2, .const (.int .i64 48))]⟩,
      ⟨some 14, .none, true, 45, .build 45 #[(0, .const (.int .i64 1)), (1, .const (.int .i64 12)), (2, .const (.int .i64 8))]⟩,
      ⟨some 15, .none, true, 45, .build 45 #[(0, .const (.int .i64 2)), (1, .const (.int .i64 8)), (2, .const (.int .i64 8))]⟩,
      ⟨some 16, .none, true, 45, .build 45 #[(0, .const (.int .i64 1)), (1, .const (.int .i64 104)), (2, .const (.int .i64 8))]⟩,
      ⟨some 17, .none, true, 45, .build 45 #[(0, .const (.int .i64 1)), (1, .const (.int .i64 8)), (2, .const (.int .i64 2))]⟩,
      ⟨some 18, .none, true, 45, .build 45 #[(0, .const (.int .i64 1)), (1, .const (.int .i64 8)), (2, .const (.int .i64 49))]⟩,
      ⟨some 19, .none, true, 46, .buildSlice 46 7 #[(0, .tmp 12), (1, .tmp 13), (2, .tmp 14), (3, .tmp 15), (4, .tmp 16), (5, .tmp 17), (6, .tmp 18)]⟩,
      ⟨some 1, .none, true, 46, .assign (.tmp 19)⟩])
  (.keep [1]
  (.seq
    (.seq
      (.region [⟨some 2, .none, true, 3, .assign (.const (.int .i64 0))⟩])
    (.keep [1, 2]
    (.block 0
      (.loop [1, 2] rc6l0))))
  (.seq
    (.region [⟨some 95, .none, true, 45, .call { callee := .value (.func 30), args := #[], argTypes := #[] }⟩,
      ⟨some 5, .none, true, 0, .alloc 45⟩,
      ⟨none, .none, true, 0, .store 45 (.tmp 5) (.tmp 95)⟩])
  (.keep [5]
  (.seq
    (.region [⟨some 97, .none, true, 45, .load 45 (.tmp 5)⟩,
      ⟨some 98, .none, true, 47, .call { callee := .value (.func 22), args := #[.tmp 97, .const (.int .i64 1)], argTypes := #[45, 3] }⟩,
      ⟨some 96, .none, true, 47, .move (.tmp 98)⟩,
      ⟨some 99, .none, true, 3, .extract (.tmp 96) 0⟩,
      ⟨some 100, .none, true, 3, .extract (.tmp 96) 1⟩,
      ⟨some 6, .none, true, 3, .assign (.tmp 99)⟩,
      ⟨some 7, .none, true, 3, .assign (.tmp 100)⟩])
  (.keep [5, 6, 7]
  (.seq
    (.region [⟨some 102, .none, true, 45, .load 45 (.tmp 5)⟩,
      ⟨some 103, .none, true, 47, .call { callee := .value (.func 22), args := #[.tmp 102, .const (.int .i64 2)], argTypes := #[45, 3] }⟩,
      ⟨some 101, .none, true, 47, .move (.tmp 103)⟩,
      ⟨some 104, .none, true, 3, .extract (.tmp 101) 0⟩,
      ⟨some 105, .none, true, 3, .extract (.tmp 101) 1⟩,
      ⟨some 8, .none, true, 3, .assign (.tmp 104)⟩,
      ⟨some 9, .none, true, 3, .assign (.tmp 105)⟩])
  (.keep [5, 6, 7, 8, 9]
  (.seq
    (.region [⟨some 106, .none, true, 45, .build 45 #[(0, .const (.int .i64 4)), (1, .const (.int .i64 96)), (2, .const (.int .i64 48))]⟩,
      ⟨some 107, .none, true, 4, .call { callee := .value (.func 23), args := #[.tmp 106], argTypes := #[45] }⟩,
      ⟨some 108, .none, true, 4, .move (.tmp 107)⟩,
      ⟨some 109, .some 108 true, true, 3, .move (.tmp 6)⟩,
      ⟨some 110, .some 108 true, true, 4, .binOp .eql 3 (.tmp 109) (.const (.int .i64 1224)) 3⟩,
      ⟨some 111, .none, true, 4, .pick (.tmp 108) (.tmp 110) (.const (.bool false))⟩,
      ⟨some 112, .none, true, 4, .move (.tmp 111)⟩,
      ⟨some 113, .some 112 true, true, 3, .move (.tmp 7)⟩,
      ⟨some 114, .some 112 true, true, 4, .binOp .eql 3 (.tmp 113) (.const (.int .i64 1208)) 3⟩,
      ⟨some 115, .none, true, 4, .pick (.tmp 112) (.tmp 114) (.const (.bool false))⟩,
      ⟨some 116, .none, true, 4, .move (.tmp 115)⟩,
      ⟨some 117, .some 116 true, true, 3, .move (.tmp 8)⟩,
      ⟨some 118, .some 116 true, true, 4, .binOp .eql 3 (.tmp 117) (.const (.int .i64 0)) 3⟩,
      ⟨some 119, .none, true, 4, .pick (.tmp 116) (.tmp 118) (.const (.bool false))⟩,
      ⟨some 120, .none, true, 4, .move (.tmp 119)⟩,
      ⟨some 121, .some 120 true, true, 3, .move (.tmp 9)⟩,
      ⟨some 122, .some 120 true, true, 4, .binOp .eql 3 (.tmp 121) (.const (.int .i64 0)) 3⟩,
      ⟨some 123, .none, true, 4, .pick (.tmp 120) (.tmp 122) (.const (.bool false))⟩,
      ⟨some 124, .none, true, 4, .move (.tmp 123)⟩,
      ⟨some 125, .some 124 true, true, 45, .load 45 (.tmp 5)⟩,
      ⟨some 126, .some 124 true, true, 3, .call { callee := .value (.func 27), args := #[.tmp 125, .const (.int .i64 0)], argTypes := #[45, 3] }⟩,
      ⟨some 127, .some 124 true, true, 4, .binOp .eql 3 (.tmp 126) (.const (.int .i64 2496)) 3⟩,
      ⟨some 128, .none, true, 4, .pick (.tmp 124) (.tmp 127) (.const (.bool false))⟩,
      ⟨some 129, .none, true, 4, .move (.tmp 128)⟩,
      ⟨some 130, .some 129 true, true, 45, .load 45 (.tmp 5)⟩,
      ⟨some 131, .some 129 true, true, 3, .call { callee := .value (.func 27), args := #[.tmp 130, .const (.int .i64 15)], argTypes := #[45, 3] }⟩,
      ⟨some 132, .some 129 true, true, 4, .binOp .eql 3 (.tmp 131) (.const (.int .i64 2616)) 3⟩,
      ⟨some 133, .none, true, 4, .pick (.tmp 129) (.tmp 132) (.const (.bool false))⟩,
      ⟨some 134, .none, true, 4, .move (.tmp 133)⟩,
      ⟨some 135, .some 134 true, true, 45, .load 45 (.tmp 5)⟩,
      ⟨some 136, .some 134 true, true, 3, .call { callee := .value (.func 27), args := #[.tmp 135, .const (.int .i64 16)], argTypes := #[45, 3] }⟩,
      ⟨some 137, .some 134 true, true, 4, .binOp .eql 3 (.tmp 136) (.const (.int .i64 0)) 3⟩,
      ⟨some 138, .none, true, 4, .pick (.tmp 134) (.tmp 137) (.const (.bool false))⟩,
      ⟨some 139, .none, true, 4, .move (.tmp 138)⟩,
      ⟨some 140, .some 139 true, true, 45, .load 45 (.tmp 5)⟩,
      ⟨some 141, .some 139 true, true, 3, .call { callee := .value (.func 26), args := #[.tmp 140, .const (.int .i64 32)], argTypes := #[45, 3] }⟩,
      ⟨some 142, .some 139 true, true, 4, .binOp .eql 3 (.tmp 141) (.const (.int .i64 0)) 3⟩,
      ⟨some 143, .none, true, 4, .pick (.tmp 139) (.tmp 142) (.const (.bool false))⟩,
      ⟨some 144, .none, true, 4, .move (.tmp 143)⟩,
      ⟨some 145, .some 144 true, true, 45, .load 45 (.tmp 5)⟩,
      ⟨some 146, .some 144 true, true, 3, .call { callee := .value (.func 26), args := #[.tmp 145, .const (.int .i64 (-1))], argTypes := #[45, 3] }⟩,
      ⟨some 147, .some 144 true, true, 4, .binOp .eql 3 (.tmp 146) (.const (.int .i64 0)) 3⟩,
      ⟨some 148, .none, true, 4, .pick (.tmp 144) (.tmp 147) (.const (.bool false))⟩,
      ⟨some 149, .none, true, 4, .move (.tmp 148)⟩,
      ⟨some 150, .some 149 true, true, 45, .load 45 (.tmp 5)⟩,
      ⟨some 151, .some 149 true, true, 3, .call { callee := .value (.func 28), args := #[.tmp 150], argTypes := #[45] }⟩,
      ⟨some 152, .some 149 true, true, 4, .binOp .eql 3 (.tmp 151) (.const (.int .i64 2624)) 3⟩,
      ⟨some 153, .none, true, 4, .pick (.tmp 149) (.tmp 152) (.const (.bool false))⟩,
      ⟨some 154, .none, true, 4, .move (.tmp 153)⟩,
      ⟨some 155, .some 154 true, true, 45, .load 45 (.tmp 5)⟩,
      ⟨some 156, .some 154 true, true, 3, .call { callee := .value (.func 24), args := #[.tmp 155], argTypes := #[45] }⟩,
      ⟨some 157, .some 154 true, true, 4, .binOp .eql 3 (.tmp 156) (.const (.int .i64 329)) 3⟩,
      ⟨some 158, .none, true, 4, .pick (.tmp 154) (.tmp 157) (.const (.bool false))⟩,
      ⟨some 159, .none, true, 4, .move (.tmp 158)⟩,
      ⟨some 160, .some 159 true, true, 45, .load 45 (.tmp 5)⟩,
      ⟨some 161, .some 159 true, true, 3, .call { callee := .value (.func 29), args := #[.tmp 160, .const (.int .i64 2)], argTypes := #[45, 3] }⟩,
      ⟨some 162, .some 159 true, true, 4, .binOp .eql 3 (.tmp 161) (.const (.int .i64 0)) 3⟩,
      ⟨some 163, .none, true, 4, .pick (.tmp 159) (.tmp 162) (.const (.bool false))⟩,
      ⟨some 0, .none, true, 4, .assign (.tmp 163)⟩])
  .ret)))))))))))))
theorem t6 : FnT Try.prog 6 rc6 [.tmp 0] 0 := ⟨⟨Try.f6, _, Try.func6, rfl, by kernel_rfl, by kernel_rfl, by kernel_rfl, rfl, by decide⟩, by kernel_rfl⟩
/-- reeve/reevelaw5.GeoSays -/
def rc7 : RCode :=
  (.seq
    (.region [⟨some 2, .none, true, 0, .box 45 (.tmp 0)⟩,
      ⟨some 4, .none, true, 4, .assign (.const (.bool false))⟩])
  (.keep [1, 2]
  (.seq
    (.seq
      (.region [⟨some 13, .none, true, 4, .call { callee := .value (.func 21), args := #[], argTypes := #[] }⟩,
        ⟨some 14, .none, true, 4, .unOp .not 4 (.tmp 13)⟩])
    (.keep [1, 2, 14]
    (.cond (.tmp 14)
      (.seq
        (.region [⟨some 4, .none, true, 4, .assign (.const (.bool false))⟩])
      .ret)
      .skip)))
  (.seq
    (.region [⟨some 15, .none, true, 45, .load 45 (.tmp 2)⟩,
      ⟨some 16, .none, true, 53, .call { callee := .value (.func 31), args := #[.tmp 15], argTypes := #[45] }⟩,
      ⟨some 5, .none, true, 0, .alloc 53⟩,
      ⟨none, .none, true, 0, .store 53 (.tmp 5) (.tmp 16)⟩])
  (.keep [1, 2, 5]
  (.seq
    (.region [⟨some 18, .none, true, 45, .load 45 (.tmp 2)⟩,
      ⟨some 19, .none, true, 3, .move (.tmp 1)⟩,
      ⟨some 20, .none, true, 47, .call { callee := .value (.func 22), args := #[.tmp 18, .tmp 19], argTypes := #[45, 3] }⟩,
      ⟨some 17, .none, true, 47, .move (.tmp 20)⟩,
      ⟨some 21, .none, true, 3, .extract (.tmp 17) 0⟩,
      ⟨some 22, .none, true, 3, .extract (.tmp 17) 1⟩,
      ⟨some 6, .none, true, 3, .assign (.tmp 21)⟩,
      ⟨some 7, .none, true, 3, .assign (.tmp 22)⟩])
  (.keep [1, 2, 5, 6, 7]
  (.seq
    (.region [⟨some 24, .none, true, 53, .load 53 (.tmp 5)⟩,
      ⟨some 25, .none, true, 3, .move (.tmp 1)⟩,
      ⟨some 26, .none, true, 47, .call { callee := .value (.func 32), args := #[.tmp 24, .tmp 25], argTypes := #[53, 3] }⟩,
      ⟨some 23, .none, true, 47, .move (.tmp 26)⟩,
      ⟨some 27, .none, true, 3, .extract (.tmp 23) 0⟩,
      ⟨some 28, .none, true, 3, .extract (.tmp 23) 1⟩,
      ⟨some 8, .none, true, 3, .assign (.tmp 27)⟩,
      ⟨some 9, .none, true, 3, .assign (.tmp 28)⟩])
  (.keep [1, 2, 5, 6, 7, 8, 9]
  (.seq
    (.region [⟨some 29, .none, true, 53, .load 53 (.tmp 5)⟩,
      ⟨some 30, .none, true, 4, .call { callee := .value (.func 33), args := #[.tmp 29], argTypes := #[53] }⟩,
      ⟨some 10, .none, true, 4, .assign (.tmp 30)⟩])
  (.keep [1, 2, 5, 6, 7, 8, 9, 10]
  (.seq
    (.region [⟨some 11, .none, true, 3, .assign (.const (.int .i64 0))⟩,
      ⟨some 12, .none, true, 3, .assign (.const (.int .i64 0))⟩])
  (.keep [1, 2, 5, 6, 7, 8, 9, 10, 11, 12]
  (.seq
    (.seq
      (.region [⟨some 31, .none, true, 4, .move (.tmp 10)⟩])
    (.keep [1, 2, 5, 6, 7, 8, 9, 10, 11, 12, 31]
    (.cond (.tmp 31)
      (.region [⟨some 11, .none, true, 3, .assign (.const (.int .i64 8))⟩])
      .skip)))
  (.seq
    (.seq
      (.region [⟨some 32, .none, true, 4, .move (.tmp 10)⟩,
        ⟨some 33, .none, true, 4, .move (.tmp 32)⟩,
        ⟨some 34, .some 33 true, true, 3, .move (.tmp 1)⟩,
        ⟨some 35, .some 33 true, true, 4, .binOp .geq 3 (.tmp 34) (.const (.int .i64 0)) 3⟩,
        ⟨some 36, .none, true, 4, .pick (.tmp 33) (.tmp 35) (.const (.bool false))⟩,
        ⟨some 37, .none, true, 4, .move (.tmp 36)⟩,
        ⟨some 38, .some 37 true, true, 3, .move (.tmp 1)⟩,
        ⟨some 39, .some 37 true, true, 0, .fieldAddr 45 (.tmp 2) 0⟩,
        ⟨some 40, .some 37 true, true, 3, .load 3 (.tmp 39)⟩,
        ⟨some 41, .some 37 true, true, 4, .binOp .lss 3 (.tmp 38) (.tmp 40) 3⟩,
        ⟨some 42, .none, true, 4, .pick (.tmp 37) (.tmp 41) (.const (.bool false))⟩])
    (.keep [1, 2, 5, 6, 7, 8, 9, 10, 11, 12, 42]
    (.cond (.tmp 42)
      (.region [⟨some 43, .none, true, 3, .move (.tmp 1)⟩,
        ⟨some 44, .none, true, 3, .binOp .mul 3 (.const (.int .i64 8)) (.tmp 43) 3⟩,
        ⟨some 12, .none, true, 3, .assign (.tmp 44)⟩])
      .skip)))
  (.seq
    (.region [⟨some 45, .none, true, 45, .load 45 (.tmp 2)⟩,
      ⟨some 46, .none, true, 4, .call { callee := .value (.func 23), args := #[.tmp 45], argTypes := #[45] }⟩,
      ⟨some 47, .none, false, 4, .move (.tmp 10)⟩,
      ⟨some 48, .none, true, 4, .binOp .eql 4 (.tmp 46) (.tmp 47) 4⟩,
      ⟨some 49, .none, true, 4, .move (.tmp 48)⟩,
      ⟨some 50, .some 49 true, true, 3, .move (.tmp 6)⟩,
      ⟨some 51, .some 49 true, true, 3, .move (.tmp 8)⟩,
      ⟨some 52, .some 49 true, true, 4, .binOp .eql 3 (.tmp 50) (.tmp 51) 3⟩,
      ⟨some 53, .none, true, 4, .pick (.tmp 49) (.tmp 52) (.const (.bool false))⟩,
      ⟨some 54, .none, true, 4, .move (.tmp 53)⟩,
      ⟨some 55, .some 54 true, true, 3, .move (.tmp 7)⟩,
      ⟨some 56, .some 54 true, true, 3, .move (.tmp 9)⟩,
      ⟨some 57, .some 54 true, true, 4, .binOp .eql 3 (.tmp 55) (.tmp 56) 3⟩,
      ⟨some 58, .none, true, 4, .pick (.tmp 54) (.tmp 57) (.const (.bool false))⟩,
      ⟨some 59, .none, true, 4, .move (.tmp 58)⟩,
      ⟨some 60, .some 59 true, false, 45, .load 45 (.tmp 2)⟩,
      ⟨some 61, .some 59 true, false, 3, .call { callee := .value (.func 24), args := #[.tmp 60], argTypes := #[45] }⟩,
      ⟨some 62, .some 59 true, false, 53, .load 53 (.tmp 5)⟩,
      ⟨some 63, .some 59 true, true, 3, .call { callee := .value (.func 34), args := #[.tmp 62], argTypes := #[53] }⟩,
      ⟨some 64, .some 59 true, true, 4, .binOp .eql 3 (.tmp 61) (.tmp 63) 3⟩,
      ⟨some 65, .none, true, 4, .pick (.tmp 59) (.tmp 64) (.const (.bool false))⟩,
      ⟨some 66, .none, true, 4, .move (.tmp 65)⟩,
      ⟨some 67, .some 66 true, false, 45, .load 45 (.tmp 2)⟩,
      ⟨some 68, .some 66 true, false, 3, .move (.tmp 1)⟩,
      ⟨some 69, .some 66 true, false, 3, .call { callee := .value (.func 26), args := #[.tmp 67, .tmp 68], argTypes := #[45, 3] }⟩,
      ⟨some 70, .some 66 true, false, 53, .load 53 (.tmp 5)⟩,
      ⟨some 71, .some 66 true, false, 3, .move (.tmp 1)⟩,
      ⟨some 72, .some 66 true, true, 3, .call { callee := .value (.func 35), args := #[.tmp 70, .tmp 71], argTypes := #[53, 3] }⟩,
      ⟨some 73, .some 66 true, true, 4, .binOp .eql 3 (.tmp 69) (.tmp 72) 3⟩,
      ⟨some 74, .none, true, 4, .pick (.tmp 66) (.tmp 73) (.const (.bool false))⟩,
      ⟨some 75, .none, true, 4, .move (.tmp 74)⟩,
      ⟨some 76, .some 75 true, false, 45, .load 45 (.tmp 2)⟩,
      ⟨some 77, .some 75 true, false, 3, .move (.tmp 1)⟩,
      ⟨some 78, .some 75 true, false, 3, .call { callee := .value (.func 27), args := #[.tmp 76, .tmp 77], argTypes := #[45, 3] }⟩,
      ⟨some 79, .some 75 true, false, 53, .load 53 (.tmp 5)⟩,
      ⟨some 80, .some 75 true, false, 3, .move (.tmp 1)⟩,
      ⟨some 81, .some 75 true, true, 3, .call { callee := .value (.func 36), args := #[.tmp 79, .tmp 80], argTypes := #[53, 3] }⟩,
      ⟨some 82, .some 75 true, true, 4, .binOp .eql 3 (.tmp 78) (.tmp 81) 3⟩,
      ⟨some 83, .none, true, 4, .pick (.tmp 75) (.tmp 82) (.const (.bool false))⟩,
      ⟨some 84, .none, true, 4, .move (.tmp 83)⟩,
      ⟨some 85, .some 84 true, false, 45, .load 45 (.tmp 2)⟩,
      ⟨some 86, .some 84 true, false, 3, .call { callee := .value (.func 28), args := #[.tmp 85], argTypes := #[45] }⟩,
      ⟨some 87, .some 84 true, false, 53, .load 53 (.tmp 5)⟩,
      ⟨some 88, .some 84 true, true, 3, .call { callee := .value (.func 37), args := #[.tmp 87], argTypes := #[53] }⟩,
      ⟨some 89, .some 84 true, true, 4, .binOp .eql 3 (.tmp 86) (.tmp 88) 3⟩,
      ⟨some 90, .none, true, 4, .pick (.tmp 84) (.tmp 89) (.const (.bool false))⟩,
      ⟨some 91, .none, true, 4, .move (.tmp 90)⟩,
      ⟨some 92, .some 91 true, true, 45, .load 45 (.tmp 2)⟩,
      ⟨some 93, .some 91 true, true, 3, .call { callee := .value (.func 25), args := #[.tmp 92], argTypes := #[45] }⟩,
      ⟨some 94, .some 91 true, false, 3, .move (.tmp 11)⟩,
      ⟨some 95, .some 91 true, true, 4, .binOp .eql 3 (.tmp 93) (.tmp 94) 3⟩,
      ⟨some 96, .none, true, 4, .pick (.tmp 91) (.tmp 95) (.const (.bool false))⟩,
      ⟨some 97, .none, true, 4, .move (.tmp 96)⟩,
      ⟨some 98, .some 97 true, true, 45, .load 45 (.tmp 2)⟩,
      ⟨some 99, .some 97 true, false, 3, .move (.tmp 1)⟩,
      ⟨some 100, .some 97 true, true, 3, .call { callee := .value (.func 29), args := #[.tmp 98, .tmp 99], argTypes := #[45, 3] }⟩,
      ⟨some 101, .some 97 true, false, 3, .move (.tmp 12)⟩,
      ⟨some 102, .some 97 true, true, 4, .binOp .eql 3 (.tmp 100) (.tmp 101) 3⟩,
      ⟨some 103, .none, true, 4, .pick (.tmp 97) (.tmp 102) (.const (.bool false))⟩,
      ⟨some 4, .none, true, 4, .assign (.tmp 103)⟩])
  .ret))))))))))))))))
theorem t7 : FnT Try.prog 7 rc7 [.tmp 4] 2 := ⟨⟨Try.f7, _, Try.func7, rfl, by kernel_rfl, by kernel_rfl, by kernel_rfl, rfl, by decide⟩, by kernel_rfl⟩
/-- reeve/reevelaw5.GeoApart -/
def rc8l0 : RCode :=
  (.seq
    (.seq
      (.region [⟨some 42, .none, true, 3, .move (.tmp 6)⟩,
        ⟨some 43, .none, true, 0, .fieldAddr 45 (.tmp 1) 0⟩,
        ⟨some 44, .none, true, 3, .load 3 (.tmp 43)⟩,
        ⟨some 45, .none, true, 4, .binOp .lss 3 (.tmp 42) (.tmp 44) 3⟩])
    (.keep [1, 3, 4, 5, 6, 45]
    (.cond (.tmp 45)
      .skip
      (.exit 0))))
  (.seq
    (.block 1
      (.seq
        (.region [⟨some 49, .none, true, 45, .load 45 (.tmp 1)⟩,
          ⟨some 50, .none, true, 3, .move (.tmp 6)⟩,
          ⟨some 51, .none, true, 47, .call { callee := .value (.func 22), args := #[.tmp 49, .tmp 50], argTypes := #[45, 3] }⟩,
          ⟨some 48, .none, true, 47, .move (.tmp 51)⟩,
          ⟨some 52, .none, true, 3, .extract (.tmp 48) 0⟩,
          ⟨some 53, .none, true, 3, .extract (.tmp 48) 1⟩,
          ⟨some 7, .none, true, 3, .assign (.tmp 52)⟩,
          ⟨some 8, .none, true, 3, .assign (.tmp 53)⟩])
      (.keep [1, 3, 4, 5, 6, 7, 8]
      (.region [⟨some 54, .none, true, 4, .move (.tmp 5)⟩,
        ⟨some 55, .none, true, 4, .move (.tmp 54)⟩,
        ⟨some 56, .some 55 true, true, 3, .move (.tmp 8)⟩,
        ⟨some 57, .some 55 true, true, 4, .binOp .eql 3 (.tmp 56) (.const (.int .i64 1208)) 3⟩,
        ⟨some 58, .none, true, 4, .pick (.tmp 55) (.tmp 57) (.const (.bool false))⟩,
        ⟨some 59, .none, true, 4, .move (.tmp 58)⟩,
        ⟨some 60, .some 59 true, true, 60, .move (.tmp 4)⟩,
        ⟨some 61, .some 59 true, true, 3, .move (.tmp 7)⟩,
        ⟨some 62, .some 59 true, true, 3, .move (.tmp 8)⟩,
        ⟨some 63, .some 59 true, true, 4, .call { callee := .value (.func 38), args := #[.tmp 60, .tmp 61, .tmp 62], argTypes := #[60, 3, 3] }⟩,
        ⟨some 64, .none, true, 4, .pick (.tmp 59) (.tmp 63) (.const (.bool false))⟩,
        ⟨some 5, .none, true, 4, .assign (.tmp 64)⟩]))))
  (.keep [1, 3, 4, 5, 6]
  (.region [⟨some 46, .none, true, 3, .move (.tmp 6)⟩,
    ⟨some 47, .none, true, 3, .binOp .add 3 (.tmp 46) (.const (.int .i64 1)) 3⟩,
    ⟨some 6, .none, true, 3, .assign (.tmp 47)⟩]))))
def rc8l1 : RCode :=
  (.seq
    (.seq
      (.region [⟨some 65, .none, true, 3, .move (.tmp 9)⟩,
        ⟨some 66, .none, true, 0, .fieldAddr 45 (.tmp 1) 1⟩,
        ⟨some 67, .none, true, 3, .load 3 (.tmp 66)⟩,
        ⟨some 68, .none, true, 4, .binOp .lss 3 (.tmp 65) (.tmp 67) 3⟩])
    (.keep [1, 3, 4, 5, 9, 68]
    (.cond (.tmp 68)
      .skip
      (.exit 2))))
  (.seq
    (.block 3
      (.region [⟨some 71, .none, true, 4, .move (.tmp 5)⟩,
        ⟨some 72, .none, true, 4, .move (.tmp 71)⟩,
        ⟨some 73, .some 72 true, true, 60, .move (.tmp 4)⟩,
        ⟨some 74, .some 72 true, true, 45, .load 45 (.tmp 1)⟩,
        ⟨some 75, .some 72 true, true, 3, .move (.tmp 9)⟩,
        ⟨some 76, .some 72 true, true, 3, .call { callee := .value (.func 26), args := #[.tmp 74, .tmp 75], argTypes := #[45, 3] }⟩,
        ⟨some 77, .some 72 true, true, 4, .call { callee := .value (.func 38), args := #[.tmp 73, .tmp 76, .const (.int .i64 2)], argTypes := #[60, 3, 3] }⟩,
        ⟨some 78, .none, true, 4, .pick (.tmp 72) (.tmp 77) (.const (.bool false))⟩,
        ⟨some 5, .none, true, 4, .assign (.tmp 78)⟩]))
  (.keep [1, 3, 4, 5, 9]
  (.region [⟨some 69, .none, true, 3, .move (.tmp 9)⟩,
    ⟨some 70, .none, true, 3, .binOp .add 3 (.tmp 69) (.const (.int .i64 1)) 3⟩,
    ⟨some 9, .none, true, 3, .assign (.tmp 70)⟩]))))
def rc8l2 : RCode :=
  (.seq
    (.seq
      (.region [⟨some 79, .none, true, 3, .move (.tmp 10)⟩,
        ⟨some 80, .none, true, 0, .fieldAddr 45 (.tmp 1) 2⟩,
        ⟨some 81, .none, true, 3, .load 3 (.tmp 80)⟩,
        ⟨some 82, .none, true, 4, .binOp .lss 3 (.tmp 79) (.tmp 81) 3⟩])
    (.keep [1, 3, 4, 5, 10, 82]
    (.cond (.tmp 82)
      .skip
      (.exit 4))))
  (.seq
    (.block 5
      (.region [⟨some 85, .none, true, 4, .move (.tmp 5)⟩,
        ⟨some 86, .none, true, 4, .move (.tmp 85)⟩,
        ⟨some 87, .some 86 true, true, 45, .load 45 (.tmp 1)⟩,
        ⟨some 88, .some 86 true, true, 3, .move (.tmp 10)⟩,
        ⟨some 89, .some 86 true, true, 3, .call { callee := .value (.func 27), args := #[.tmp 87, .tmp 88], argTypes := #[45, 3] }⟩,
        ⟨some 90, .some 86 true, true, 3, .binOp .rem 3 (.tmp 89) (.const (.int .i64 8)) 3⟩,
        ⟨some 91, .some 86 true, true, 4, .binOp .eql 3 (.tmp 90) (.const (.int .i64 0)) 3⟩,
        ⟨some 92, .none, true, 4, .pick (.tmp 86) (.tmp 91) (.const (.bool false))⟩,
        ⟨some 93, .none, true, 4, .move (.tmp 92)⟩,
        ⟨some 94, .some 93 true, true, 60, .move (.tmp 4)⟩,
        ⟨some 95, .some 93 true, true, 45, .load 45 (.tmp 1)⟩,
        ⟨some 96, .some 93 true, true, 3, .move (.tmp 10)⟩,
        ⟨some 97, .some 93 true, true, 3, .call { callee := .value (.func 27), args := #[.tmp 95, .tmp 96], argTypes := #[45, 3] }⟩,
        ⟨some 98, .some 93 true, true, 4, .call { callee := .value (.func 38), args := #[.tmp 94, .tmp 97, .const (.int .i64 8)], argTypes := #[60, 3, 3] }⟩,
        ⟨some 99, .none, true, 4, .pick (.tmp 93) (.tmp 98) (.const (.bool false))⟩,
        ⟨some 5, .none, true, 4, .assign (.tmp 99)⟩]))
  (.keep [1, 3, 4, 5, 10]
  (.region [⟨some 83, .none, true, 3, .move (.tmp 10)⟩,
    ⟨some 84, .none, true, 3, .binOp .add 3 (.tmp 83) (.const (.int .i64 1)) 3⟩,
    ⟨some 10, .none, true, 3, .assign (.tmp 84)⟩]))))
def rc8l3 : RCode :=
  (.seq
    (.seq
      (.region [⟨some 100, .none, true, 3, .move (.tmp 11)⟩,
        ⟨some 101, .none, true, 3, .move (.tmp 3)⟩,
        ⟨some 102, .none, true, 4, .binOp .lss 3 (.tmp 100) (.tmp 101) 3⟩])
    (.keep [3, 4, 5, 11, 102]
    (.cond (.tmp 102)
      .skip
      (.exit 6))))
  (.seq
    (.block 7
      (.region [⟨some 105, .none, true, 4, .move (.tmp 5)⟩,
        ⟨some 106, .none, true, 4, .move (.tmp 105)⟩,
        ⟨some 107, .some 106 true, true, 60, .move (.tmp 4)⟩,
        ⟨some 108, .some 106 true, true, 3, .move (.tmp 11)⟩,
        ⟨some 109, .some 106 true, true, 0, .indexAddr 60 (.tmp 107) (.tmp 108)⟩,
        ⟨some 110, .some 106 true, true, 4, .load 4 (.tmp 109)⟩,
        ⟨some 111, .none, true, 4, .pick (.tmp 106) (.tmp 110) (.const (.bool false))⟩,
        ⟨some 5, .none, true, 4, .assign (.tmp 111)⟩]))
  (.keep [3, 4, 5, 11]
  (.region [⟨some 103, .none, true, 3, .move (.tmp 11)⟩,
    ⟨some 104, .none, true, 3, .binOp .add 3 (.tmp 103) (.const (.int .i64 1)) 3⟩,
    ⟨some 11, .none, true, 3, .assign (.tmp 104)⟩]))))
def rc8 : RCode :=
  (.seq
    (.region [⟨some 1, .none, true, 0, .box 45 (.tmp 0)⟩,
      ⟨some 2, .none, true, 4, .assign (.const (.bool false))⟩])
  (.keep [1]
  (.seq
    (.seq
      (.region [⟨some 12, .none, true, 4, .call { callee := .value (.func 21), args := #[], argTypes := #[] }⟩,
        ⟨some 13, .none, true, 4, .unOp .not 4 (.tmp 12)⟩])
    (.keep [1, 13]
    (.cond (.tmp 13)
      (.seq
        (.region [⟨some 2, .none, true, 4, .assign (.const (.bool false))⟩])
      .ret)
      .skip)))
  (.seq
    (.seq
      (.region [⟨some 14, .none, true, 45, .load 45 (.tmp 1)⟩,
        ⟨some 15, .none, true, 4, .call { callee := .value (.func 23), args := #[.tmp 14], argTypes := #[45] }⟩,
        ⟨some 16, .none, true, 4, .unOp .not 4 (.tmp 15)⟩])
    (.keep [1, 16]
    (.cond (.tmp 16)
      (.seq
        (.region [⟨some 2, .none, true, 4, .assign (.const (.bool true))⟩])
      .ret)
      .skip)))
  (.seq
    (.region [⟨some 17, .none, true, 45, .load 45 (.tmp 1)⟩,
      ⟨some 18, .none, true, 3, .call { callee := .value (.func 24), args := #[.tmp 17], argTypes := #[45] }⟩,
      ⟨some 19, .none, true, 3, .binOp .mul 3 (.const (.int .i64 8)) (.tmp 18) 3⟩,
      ⟨some 3, .none, true, 3, .assign (.tmp 19)⟩])
  (.keep [1, 3]
  (.seq
    (.seq
      (.region [⟨some 20, .none, true, 3, .move (.tmp 3)⟩,
        ⟨some 21, .none, true, 4, .binOp .lss 3 (.tmp 20) (.const (.int .i64 1)) 3⟩,
        ⟨some 22, .none, true, 4, .move (.tmp 21)⟩,
        ⟨some 23, .some 22 false, true, 3, .move (.tmp 3)⟩,
        ⟨some 24, .some 22 false, true, 4, .binOp .gtr 3 (.tmp 23) (.const (.int .i64 32768)) 3⟩,
        ⟨some 25, .none, true, 4, .pick (.tmp 22) (.const (.bool true)) (.tmp 24)⟩])
    (.keep [1, 3, 25]
    (.cond (.tmp 25)
      (.seq
        (.region [⟨some 2, .none, true, 4, .assign (.const (.bool false))⟩])
      .ret)
      .skip)))
  (.seq
    (.region [⟨some 26, .none, true, 3, .move (.tmp 3)⟩,
      ⟨some 27, .none, true, 60, .makeSlice 60 (.tmp 26) (.tmp 26)⟩,
      ⟨some 4, .none, true, 60, .assign (.tmp 27)⟩])
  (.keep [1, 3, 4]
  (.seq
    (.region [⟨some 28, .none, true, 60, .move (.tmp 4)⟩,
      ⟨some 29, .none, true, 4, .call { callee := .value (.func 38), args := #[.tmp 28, .const (.int .i64 0), .const (.int .i64 8)], argTypes := #[60, 3, 3] }⟩,
      ⟨some 30, .none, true, 4, .move (.tmp 29)⟩,
      ⟨some 31, .some 30 true, true, 60, .move (.tmp 4)⟩,
      ⟨some 32, .some 30 true, true, 45, .load 45 (.tmp 1)⟩,
      ⟨some 33, .some 30 true, true, 3, .call { callee := .value (.func 25), args := #[.tmp 32], argTypes := #[45] }⟩,
      ⟨some 34, .some 30 true, true, 4, .call { callee := .value (.func 38), args := #[.tmp 31, .tmp 33, .const (.int .i64 8)], argTypes := #[60, 3, 3] }⟩,
      ⟨some 35, .none, true, 4, .pick (.tmp 30) (.tmp 34) (.const (.bool false))⟩,
      ⟨some 36, .none, true, 4, .move (.tmp 35)⟩,
      ⟨some 37, .some 36 true, true, 60, .move (.tmp 4)⟩,
      ⟨some 38, .some 36 true, true, 45, .load 45 (.tmp 1)⟩,
      ⟨some 39, .some 36 true, true, 3, .call { callee := .value (.func 28), args := #[.tmp 38], argTypes := #[45] }⟩,
      ⟨some 40, .some 36 true, true, 4, .call { callee := .value (.func 38), args := #[.tmp 37, .tmp 39, .const (.int .i64 8)], argTypes := #[60, 3, 3] }⟩,
      ⟨some 41, .none, true, 4, .pick (.tmp 36) (.tmp 40) (.const (.bool false))⟩,
      ⟨some 5, .none, true, 4, .assign (.tmp 41)⟩])
  (.keep [1, 3, 4, 5]
  (.seq
    (.seq
      (.region [⟨some 6, .none, true, 3, .assign (.const (.int .i64 0))⟩])
    (.keep [1, 3, 4, 5, 6]
    (.block 0
      (.loop [1, 3, 4, 5, 6] rc8l0))))
  (.seq
    (.seq
      (.region [⟨some 9, .none, true, 3, .assign (.const (.int .i64 0))⟩])
    (.keep [1, 3, 4, 5, 9]
    (.block 2
      (.loop [1, 3, 4, 5, 9] rc8l1))))
  (.seq
    (.seq
      (.region [⟨some 10, .none, true, 3, .assign (.const (.int .i64 0))⟩])
    (.keep [1, 3, 4, 5, 10]
    (.block 4
      (.loop [1, 3, 4, 5, 10] rc8l2))))
  (.seq
    (.seq
      (.region [⟨some 11, .none, true, 3, .assign (.const (.int .i64 0))⟩])
    (.keep [3, 4, 5, 11]
    (.block 6
      (.loop [3, 4, 5, 11] rc8l3))))
  (.seq
    (.region [⟨some 112, .none, true, 4, .move (.tmp 5)⟩,
      ⟨some 2, .none, true, 4, .assign (.tmp 112)⟩])
  .ret))))))))))))))))
theorem t8 : FnT Try.prog 8 rc8 [.tmp 2] 1 := ⟨⟨Try.f8, _, Try.func8, rfl, by kernel_rfl, by kernel_rfl, by kernel_rfl, rfl, by decide⟩, by kernel_rfl⟩
/-- reeve/reevelaw4.TagKnown -/
def rc9l0 : RCode :=
  (.seq
    (.seq
      (.region [⟨some 40, .none, true, 3, .move (.tmp 2)⟩,
        ⟨some 41, .none, true, 62, .move (.tmp 1)⟩,
        ⟨some 42, .none, true, 3, .call { callee := .builtin .len, args := #[.tmp 41], argTypes := #[62] }⟩,
        ⟨some 43, .none, true, 4, .binOp .lss 3 (.tmp 40) (.tmp 42) 3⟩])
    (.keep [1, 2, 43]
    (.cond (.tmp 43)
      .skip
      (.exit 0))))
  (.seq
    (.block 1
      (.seq
        (.region [⟨some 47, .none, true, 62, .move (.tmp 1)⟩,
          ⟨some 48, .none, true, 3, .move (.tmp 2)⟩,
          ⟨some 49, .none, true, 0, .indexAddr 62 (.tmp 47) (.tmp 48)⟩,
          ⟨some 50, .none, true, 22, .load 22 (.tmp 49)⟩,
          ⟨some 51, .none, true, 26, .buildSlice 26 2 #[(0, .const (.int .u64 0)), (1, .const (.int .u64 0))]⟩,
          ⟨some 52, .none, true, 28, .call { callee := .value (.func 14), args := #[.tmp 50, .tmp 51], argTypes := #[22, 26] }⟩,
          ⟨some 46, .none, true, 28, .move (.tmp 52)⟩,
          ⟨some 53, .none, true, 23, .extract (.tmp 46) 0⟩,
          ⟨some 54, .none, true, 4, .extract (.tmp 46) 1⟩,
          ⟨some 3, .none, true, 23, .assign (.tmp 53)⟩,
          ⟨some 4, .none, true, 4, .assign (.tmp 54)⟩])
      (.keep [1, 2, 4]
      (.seq
        (.region [⟨some 55, .none, true, 4, .move (.tmp 4)⟩,
          ⟨some 56, .none, true, 4, .move (.tmp 55)⟩,
          ⟨some 57, .some 56 false, true, 62, .move (.tmp 1)⟩,
          ⟨some 58, .some 56 false, true, 3, .move (.tmp 2)⟩,
          ⟨some 59, .some 56 false, true, 0, .indexAddr 62 (.tmp 57) (.tmp 58)⟩,
          ⟨some 60, .some 56 false, true, 22, .load 22 (.tmp 59)⟩,
          ⟨some 61, .some 56 false, true, 4, .call { callee := .value (.func 12), args := #[.tmp 60], argTypes := #[22] }⟩,
          ⟨some 62, .none, true, 4, .pick (.tmp 56) (.const (.bool true)) (.tmp 61)⟩,
          ⟨some 63, .none, true, 4, .move (.tmp 62)⟩,
          ⟨some 64, .some 63 false, true, 62, .move (.tmp 1)⟩,
          ⟨some 65, .some 63 false, true, 3, .move (.tmp 2)⟩,
          ⟨some 66, .some 63 false, true, 0, .indexAddr 62 (.tmp 64) (.tmp 65)⟩,
          ⟨some 67, .some 63 false, true, 22, .load 22 (.tmp 66)⟩,
          ⟨some 68, .some 63 false, true, 26, .call { callee := .value (.func 13), args := #[.const (.int .u64 7), .tmp 67], argTypes := #[23, 22] }⟩,
          ⟨some 69, .some 63 false, true, 3, .call { callee := .builtin .len, args := #[.tmp 68], argTypes := #[26] }⟩,
          ⟨some 70, .some 63 false, true, 4, .binOp .neq 3 (.tmp 69) (.const (.int .i64 0)) 3⟩,
          ⟨some 71, .none, true, 4, .pick (.tmp 63) (.const (.bool true)) (.tmp 70)⟩,
          ⟨some 72, .none, true, 4, .move (.tmp 71)⟩,
          ⟨some 73, .some 72 false, true, 62, .move (.tmp 1)⟩,
          ⟨some 74, .some 72 false, true, 3, .move (.tmp 2)⟩,
          ⟨some 75, .some 72 false, true, 0, .indexAddr 62 (.tmp 73) (.tmp 74)⟩,
          ⟨some 76, .some 72 false, true, 22, .load 22 (.tmp 75)⟩,
          ⟨some 77, .some 72 false, true, 23, .call { callee := .value (.func 15), args := #[.const (.int .u64 7), .tmp 76], argTypes := #[23, 22] }⟩,
          ⟨some 78, .some 72 false, true, 4, .binOp .neq 23 (.tmp 77) (.const (.int .u64 7)) 23⟩,
          ⟨some 79, .none, true, 4, .pick (.tmp 72) (.const (.bool true)) (.tmp 78)⟩])
      (.keep [1, 2, 79]
      (.cond (.tmp 79)
        (.seq
          (.region [⟨some 0, .none, true, 4, .assign (.const (.bool false))⟩])
        .ret)
        .skip))))))
  (.keep [1, 2]
  (.region [⟨some 44, .none, true, 3, .move (.tmp 2)⟩,
    ⟨some 45, .none, true, 3, .binOp .add 3 (.tmp 44) (.const (.int .i64 1)) 3⟩,
    ⟨some 2, .none, true, 3, .assign (.tmp 45)⟩]))))
def rc9 : RCode :=
  (.seq
    (.region [⟨some 0, .none, true, 4, .assign (.const (.bool false))⟩])
  (.keep []
  (.seq
    (.seq
      (.region [⟨some 26, .none, true, 4, .call { callee := .value (.func 11), args := #[], argTypes := #[] }⟩,
        ⟨some 27, .none, true, 4, .unOp .not 4 (.tmp 26)⟩])
    (.keep [27]
    (.cond (.tmp 27)
      (.seq
        (.region [⟨some 0, .none, true, 4, .assign (.const (.bool false))⟩])
      .ret)
      .skip)))
  (.seq
    (.region [⟨some 28, .none, true, 34, .build 34 #[(0, .const (.int .i64 (-1))), (1, .const (.int .i64 1))]⟩,
      ⟨some 29, .none, true, 22, .buildSlice 22 1 #[(0, .tmp 28)]⟩,
      ⟨some 30, .none, true, 34, .build 34 #[(0, .const (.int .i64 64)), (1, .const (.int .i64 1))]⟩,
      ⟨some 31, .none, true, 22, .buildSlice 22 1 #[(0, .tmp 30)]⟩,
      ⟨some 32, .none, true, 34, .build 34 #[(0, .const (.int .i64 0)), (1, .const (.int .i64 0))]⟩,
      ⟨some 33, .none, true, 22, .buildSlice 22 1 #[(0, .tmp 32)]⟩,
      ⟨some 34, .none, true, 34, .build 34 #[(0, .const (.int .i64 1)), (1, .const (.int .i64 64))]⟩,
      ⟨some 35, .none, true, 22, .buildSlice 22 1 #[(0, .tmp 34)]⟩,
      ⟨some 36, .none, true, 34, .build 34 #[(0, .const (.int .i64 0)), (1, .const (.int .i64 4))]⟩,
      ⟨some 37, .none, true, 34, .build 34 #[(0, .const (.int .i64 3)), (1, .const (.int .i64 1))]⟩,
      ⟨some 38, .none, true, 22, .buildSlice 22 2 #[(0, .tmp 36), (1, .tmp 37)]⟩,
      ⟨some 39, .none, true, 62, .buildSlice 62 5 #[(0, .tmp 29), (1, .tmp 31), (2, .tmp 33), (3, .tmp 35), (4, .tmp 38)]⟩,
      ⟨some 1, .none, true, 62, .assign (.tmp 39)⟩])
  (.keep [1]
  (.seq
    (.seq
      (.region [⟨some 2, .none, true, 3, .assign (.const (.int .i64 0))⟩])
    (.keep [1, 2]
    (.block 0
      (.loop [1, 2] rc9l0))))
  (.seq
    (.region [⟨some 80, .none, true, 34, .build 34 #[(0, .const (.int .i64 0)), (1, .const (.int .i64 64))]⟩,
      ⟨some 81, .none, true, 22, .buildSlice 22 1 #[(0, .tmp 80)]⟩,
      ⟨some 5, .none, true, 22, .assign (.tmp 81)⟩])
  (.keep [5]
  (.seq
    (.region [⟨some 83, .none, true, 22, .move (.tmp 5)⟩,
      ⟨some 84, .none, true, 26, .buildSlice 26 1 #[(0, .const (.int .u64 18446744073709551615))]⟩,
      ⟨some 85, .none, true, 28, .call { callee := .value (.func 14), args := #[.tmp 83, .tmp 84], argTypes := #[22, 26] }⟩,
      ⟨some 82, .none, true, 28, .move (.tmp 85)⟩,
      ⟨some 86, .none, true, 23, .extract (.tmp 82) 0⟩,
      ⟨some 87, .none, true, 4, .extract (.tmp 82) 1⟩,
      ⟨some 6, .none, true, 23, .assign (.tmp 86)⟩,
      ⟨some 7, .none, true, 4, .assign (.tmp 87)⟩])
  (.keep [5, 6, 7]
  (.seq
    (.region [⟨some 89, .none, true, 34, .build 34 #[(0, .const (.int .i64 0)), (1, .const (.int .i64 4))]⟩,
      ⟨some 90, .none, true, 22, .buildSlice 22 1 #[(0, .tmp 89)]⟩,
      ⟨some 91, .none, true, 26, .buildSlice 26 1 #[(0, .const (.int .u64 16))]⟩,
      ⟨some 92, .none, true, 28, .call { callee := .value (.func 14), args := #[.tmp 90, .tmp 91], argTypes := #[22, 26] }⟩,
      ⟨some 88, .none, true, 28, .move (.tmp 92)⟩,
      ⟨some 93, .none, true, 23, .extract (.tmp 88) 0⟩,
      ⟨some 94, .none, true, 4, .extract (.tmp 88) 1⟩,
      ⟨some 8, .none, true, 23, .assign (.tmp 93)⟩,
      ⟨some 9, .none, true, 4, .assign (.tmp 94)⟩])
  (.keep [5, 6, 7, 9]
  (.seq
    (.region [⟨some 96, .none, true, 22, .move (.tmp 5)⟩,
      ⟨some 97, .none, true, 26, .buildSlice 26 2 #[(0, .const (.int .u64 1)), (1, .const (.int .u64 2))]⟩,
      ⟨some 98, .none, true, 28, .call { callee := .value (.func 14), args := #[.tmp 96, .tmp 97], argTypes := #[22, 26] }⟩,
      ⟨some 95, .none, true, 28, .move (.tmp 98)⟩,
      ⟨some 99, .none, true, 23, .extract (.tmp 95) 0⟩,
      ⟨some 100, .none, true, 4, .extract (.tmp 95) 1⟩,
      ⟨some 10, .none, true, 23, .assign (.tmp 99)⟩,
      ⟨some 11, .none, true, 4, .assign (.tmp 100)⟩])
  (.keep [5, 6, 7, 9, 11]
  (.seq
    (.region [⟨some 102, .none, true, 28, .call { callee := .value (.func 14), args := #[.const (.slice none 0 0), .const (.slice none 0 0)], argTypes := #[22, 26] }⟩,
      ⟨some 101, .none, true, 28, .move (.tmp 102)⟩,
      ⟨some 103, .none, true, 23, .extract (.tmp 101) 0⟩,
      ⟨some 104, .none, true, 4, .extract (.tmp 101) 1⟩,
      ⟨some 12, .none, true, 23, .assign (.tmp 103)⟩,
      ⟨some 13, .none, true, 4, .assign (.tmp 104)⟩])
  (.keep [5, 6, 7, 9, 11, 12, 13]
  (.seq
    (.region [⟨some 106, .none, true, 38, .call { callee := .value (.func 17), args := #[.const (.int .u64 7), .const (.int .i64 65535)], argTypes := #[23, 3] }⟩,
      ⟨some 105, .none, true, 38, .move (.tmp 106)⟩,
      ⟨some 107, .none, true, 37, .extract (.tmp 105) 0⟩,
      ⟨some 108, .none, true, 4, .extract (.tmp 105) 1⟩,
      ⟨some 14, .none, true, 37, .assign (.tmp 107)⟩,
      ⟨some 15, .none, true, 4, .assign (.tmp 108)⟩])
  (.keep [5, 6, 7, 9, 11, 12, 13, 14, 15]
  (.seq
    (.region [⟨some 110, .none, true, 37, .move (.tmp 14)⟩,
      ⟨some 111, .none, true, 38, .call { callee := .value (.func 18), args := #[.tmp 110, .const (.int .u64 8)], argTypes := #[37, 23] }⟩,
      ⟨some 109, .none, true, 38, .move (.tmp 111)⟩,
      ⟨some 112, .none, true, 37, .extract (.tmp 109) 0⟩,
      ⟨some 113, .none, true, 4, .extract (.tmp 109) 1⟩,
      ⟨some 16, .none, true, 37, .assign (.tmp 112)⟩,
      ⟨some 17, .none, true, 4, .assign (.tmp 113)⟩])
  (.keep [5, 6, 7, 9, 11, 12, 13, 14, 15, 16, 17]
  (.seq
    (.region [⟨some 115, .none, true, 37, .move (.tmp 14)⟩,
      ⟨some 116, .none, true, 38, .call { callee := .value (.func 18), args := #[.tmp 115, .const (.int .u64 281474976710656)], argTypes := #[37, 23] }⟩,
      ⟨some 114, .none, true, 38, .move (.tmp 116)⟩,
      ⟨some 117, .none, true, 37, .extract (.tmp 114) 0⟩,
      ⟨some 118, .none, true, 4, .extract (.tmp 114) 1⟩,
      ⟨some 18, .none, true, 37, .assign (.tmp 117)⟩,
      ⟨some 19, .none, true, 4, .assign (.tmp 118)⟩])
  (.keep [5, 6, 7, 9, 11, 12, 13, 14, 15, 16, 17, 19]
  (.seq
    (.region [⟨some 120, .none, true, 38, .call { callee := .value (.func 17), args := #[.const (.int .u64 281474976710656), .const (.int .i64 0)], argTypes := #[23, 3] }⟩,
      ⟨some 119, .none, true, 38, .move (.tmp 120)⟩,
      ⟨some 121, .none, true, 37, .extract (.tmp 119) 0⟩,
      ⟨some 122, .none, true, 4, .extract (.tmp 119) 1⟩,
      ⟨some 20, .none, true, 37, .assign (.tmp 121)⟩,
      ⟨some 21, .none, true, 4, .assign (.tmp 122)⟩])
  (.keep [5, 6, 7, 9, 11, 12, 13, 14, 15, 16, 17, 19, 21]
  (.seq
    (.region [⟨some 124, .none, true, 38, .call { callee := .value (.func 17), args := #[.const (.int .u64 0), .const (.int .i64 65536)], argTypes := #[23, 3] }⟩,
      ⟨some 123, .none, true, 38, .move (.tmp 124)⟩,
      ⟨some 125, .none, true, 37, .extract (.tmp 123) 0⟩,
      ⟨some 126, .none, true, 4, .extract (.tmp 123) 1⟩,
      ⟨some 22, .none, true, 37, .assign (.tmp 125)⟩,
      ⟨some 23, .none, true, 4, .assign (.tmp 126)⟩])
  (.keep [5, 6, 7, 9, 11, 12, 13, 14, 15, 16, 17, 19, 21, 23]
  (.seq
    (.region [⟨some 128, .none, true, 38, .call { callee := .value (.func 17), args := #[.const (.int .u64 0), .const (.int .i64 (-1))], argTypes := #[23, 3] }⟩,
      ⟨some 127, .none, true, 38, .move (.tmp 128)⟩,
      ⟨some 129, .none, true, 37, .extract (.tmp 127) 0⟩,
      ⟨some 130, .none, true, 4, .extract (.tmp 127) 1⟩,
      ⟨some 24, .none, true, 37, .assign (.tmp 129)⟩,
      ⟨some 25, .none, true, 4, .assign (.tmp 130)⟩])
  (.keep [5, 6, 7, 9, 11, 12, 13, 14, 15, 16, 17, 19, 21, 23, 25]
  (.seq
    (.region [⟨some 131, .none, true, 4, .call { callee := .value (.func 12), args := #[.const (.slice none 0 0)], argTypes := #[22] }⟩,
      ⟨some 132, .none, true, 4, .move (.tmp 131)⟩,
      ⟨some 133, .some 132 true, true, 4, .move (.tmp 7)⟩,
      ⟨some 134, .none, true, 4, .pick (.tmp 132) (.tmp 133) (.const (.bool false))⟩,
      ⟨some 135, .none, true, 4, .move (.tmp 134)⟩,
      ⟨some 136, .some 135 true, true, 23, .move (.tmp 6)⟩,
      ⟨some 137, .some 135 true, true, 4, .binOp .eql 23 (.tmp 136) (.const (.int .u64 18446744073709551615)) 23⟩,
      ⟨some 138, .none, true, 4, .pick (.tmp 135) (.tmp 137) (.const (.bool false))⟩,
      ⟨some 139, .none, true, 4, .move (.tmp 138)⟩,
      ⟨some 140, .some 139 true, true, 4, .move (.tmp 9)⟩,
      ⟨some 141, .some 139 true, true, 4, .unOp .not 4 (.tmp 140)⟩,
      ⟨some 142, .none, true, 4, .pick (.tmp 139) (.tmp 141) (.const (.bool false))⟩,
      ⟨some 143, .none, true, 4, .move (.tmp 142)⟩,
      ⟨some 144, .some 143 true, true, 4, .move (.tmp 11)⟩,
      ⟨some 145, .some 143 true, true, 4, .unOp .not 4 (.tmp 144)⟩,
      ⟨some 146, .none, true, 4, .pick (.tmp 143) (.tmp 145) (.const (.bool false))⟩,
      ⟨some 147, .none, true, 4, .move (.tmp 146)⟩,
      ⟨some 148, .some 147 true, true, 4, .move (.tmp 13)⟩,
      ⟨some 149, .none, true, 4, .pick (.tmp 147) (.tmp 148) (.const (.bool false))⟩,
      ⟨some 150, .none, true, 4, .move (.tmp 149)⟩,
      ⟨some 151, .some 150 true, true, 23, .move (.tmp 12)⟩,
      ⟨some 152, .some 150 true, true, 4, .binOp .eql 23 (.tmp 151) (.const (.int .u64 0)) 23⟩,
      ⟨some 153, .none, true, 4, .pick (.tmp 150) (.tmp 152) (.const (.bool false))⟩,
      ⟨some 154, .none, true, 4, .move (.tmp 153)⟩,
      ⟨some 155, .some 154 true, true, 4, .move (.tmp 15)⟩,
      ⟨some 156, .none, true, 4, .pick (.tmp 154) (.tmp 155) (.const (.bool false))⟩,
      ⟨some 157, .none, true, 4, .move (.tmp 156)⟩,
      ⟨some 158, .some 157 true, true, 37, .move (.tmp 14)⟩,
      ⟨some 159, .some 157 true, true, 23, .call { callee := .value (.func 19), args := #[.tmp 158], argTypes := #[37] }⟩,
      ⟨some 160, .some 157 true, true, 4, .binOp .eql 23 (.tmp 159) (.const (.int .u64 7)) 23⟩,
      ⟨some 161, .none, true, 4, .pick (.tmp 157) (.tmp 160) (.const (.bool false))⟩,
      ⟨some 162, .none, true, 4, .move (.tmp 161)⟩,
      ⟨some 163, .some 162 true, true, 37, .move (.tmp 14)⟩,
      ⟨some 164, .some 162 true, true, 3, .call { callee := .value (.func 20), args := #[.tmp 163], argTypes := #[37] }⟩,
      ⟨some 165, .some 162 true, true, 4, .binOp .eql 3 (.tmp 164) (.const (.int .i64 65535)) 3⟩,
      ⟨some 166, .none, true, 4, .pick (.tmp 162) (.tmp 165) (.const (.bool false))⟩,
      ⟨some 167, .none, true, 4, .move (.tmp 166)⟩,
      ⟨some 168, .some 167 true, true, 4, .move (.tmp 17)⟩,
      ⟨some 169, .none, true, 4, .pick (.tmp 167) (.tmp 168) (.const (.bool false))⟩,
      ⟨some 170, .none, true, 4, .move (.tmp 169)⟩,
      ⟨some 171, .some 170 true, true, 37, .move (.tmp 16)⟩,
      ⟨some 172, .some 170 true, true, 23, .call { callee := .value (.func 19), args := #[.tmp 171], argTypes := #[37] }⟩,
      ⟨some 173, .some 170 true, true, 4, .binOp .eql 23 (.tmp 172) (.const (.int .u64 8)) 23⟩,
      ⟨some 174, .none, true, 4, .pick (.tmp 170) (.tmp 173) (.const (.bool false))⟩,
      ⟨some 175, .none, true, 4, .move (.tmp 174)⟩,
      ⟨some 176, .some 175 true, true, 37, .move (.tmp 16)⟩,
      ⟨some 177, .some 175 true, true, 3, .call { callee := .value (.func 20), args := #[.tmp 176], argTypes := #[37] }⟩,
      ⟨some 178, .some 175 true, true, 4, .binOp .eql 3 (.tmp 177) (.const (.int .i64 0)) 3⟩,
      ⟨some 179, .none, true, 4, .pick (.tmp 175) (.tmp 178) (.const (.bool false))⟩,
      ⟨some 180, .none, true, 4, .move (.tmp 179)⟩,
      ⟨some 181, .some 180 true, true, 4, .move (.tmp 19)⟩,
      ⟨some 182, .some 180 true, true, 4, .unOp .not 4 (.tmp 181)⟩,
      ⟨some 183, .none, true, 4, .pick (.tmp 180) (.tmp 182) (.const (.bool false))⟩,
      ⟨some 184, .none, true, 4, .move (.tmp 183)⟩,
      ⟨some 185, .some 184 true, true, 4, .move (.tmp 21)⟩,
      ⟨some 186, .some 184 true, true, 4, .unOp .not 4 (.tmp 185)⟩,
      ⟨some 187, .none, true, 4, .pick (.tmp 184) (.tmp 186) (.const (.bool false))⟩,
      ⟨some 188, .none, true, 4, .move (.tmp 187)⟩,
      ⟨some 189, .some 188 true, true, 4, .move (.tmp 23)⟩,
      ⟨some 190, .some 188 true, true, 4, .unOp .not 4 (.tmp 189)⟩,
      ⟨some 191, .none, true, 4, .pick (.tmp 188) (.tmp 190) (.const (.bool false))⟩,
      ⟨some 192, .none, true, 4, .move (.tmp 191)⟩,
      ⟨some 193, .some 192 true, true, 4, .move (.tmp 25)⟩,
      ⟨some 194, .some 192 true, true, 4, .unOp .not 4 (.tmp 193)⟩,
      ⟨some 195, .none, true, 4, .pick (.tmp 192) (.tmp 194) (.const (.bool false))⟩,
      ⟨some 196, .none, true, 4, .move (.tmp 195)⟩,
      ⟨some 197, .some 196 true, true, 22, .move (.tmp 5)⟩,
      ⟨some 198, .some 196 true, true, 23, .call { callee := .value (.func 15), args := #[.const (.int .u64 18446744073709551615), .tmp 197], argTypes := #[23, 22] }⟩,
      ⟨some 199, .some 196 true, true, 4, .binOp .eql 23 (.tmp 198) (.const (.int .u64 0)) 23⟩,
      ⟨some 200, .none, true, 4, .pick (.tmp 196) (.tmp 199) (.const (.bool false))⟩,
      ⟨some 0, .none, true, 4, .assign (.tmp 200)⟩])
  .ret)))))))))))))))))))))))))))))
theorem t9 : FnT Try.prog 9 rc9 [.tmp 0] 0 := ⟨⟨Try.f9, _, Try.func9, rfl, by kernel_rfl, by kernel_rfl, by kernel_rfl, rfl, by decide⟩, by kernel_rfl⟩
/-- reeve/reevelaw4.TagSays -/
def rc10 : RCode :=
  (.seq
    (.region [⟨some 10, .none, true, 4, .assign (.const (.bool false))⟩])
  (.keep [0, 1, 2, 3, 4]
  (.seq
    (.seq
      (.region [⟨some 25, .none, true, 4, .call { callee := .value (.func 11), args := #[], argTypes := #[] }⟩,
        ⟨some 26, .none, true, 4, .unOp .not 4 (.tmp 25)⟩])
    (.keep [0, 1, 2, 3, 4, 26]
    (.cond (.tmp 26)
      (.seq
        (.region [⟨some 10, .none, true, 4, .assign (.const (.bool false))⟩])
      .ret)
      .skip)))
  (.seq
    (.seq
      (.region [⟨some 27, .none, true, 22, .move (.tmp 0)⟩,
        ⟨some 28, .none, true, 3, .call { callee := .builtin .len, args := #[.tmp 27], argTypes := #[22] }⟩,
        ⟨some 29, .none, true, 4, .binOp .gtr 3 (.tmp 28) (.const (.int .i64 70)) 3⟩,
        ⟨some 30, .none, true, 4, .move (.tmp 29)⟩,
        ⟨some 31, .some 30 false, true, 26, .move (.tmp 1)⟩,
        ⟨some 32, .some 30 false, true, 3, .call { callee := .builtin .len, args := #[.tmp 31], argTypes := #[26] }⟩,
        ⟨some 33, .some 30 false, true, 4, .binOp .gtr 3 (.tmp 32) (.const (.int .i64 70)) 3⟩,
        ⟨some 34, .none, true, 4, .pick (.tmp 30) (.const (.bool true)) (.tmp 33)⟩])
    (.keep [0, 1, 2, 3, 4, 34]
    (.cond (.tmp 34)
      (.seq
        (.region [⟨some 10, .none, true, 4, .assign (.const (.bool true))⟩])
      .ret)
      .skip)))
  (.seq
    (.region [⟨some 35, .none, true, 22, .move (.tmp 0)⟩,
      ⟨some 36, .none, true, 63, .call { callee := .value (.func 39), args := #[.tmp 35], argTypes := #[22] }⟩,
      ⟨some 11, .none, true, 63, .assign (.tmp 36)⟩])
  (.keep [0, 1, 2, 3, 4, 11]
  (.seq
    (.region [⟨some 38, .none, true, 22, .move (.tmp 0)⟩,
      ⟨some 39, .none, true, 26, .move (.tmp 1)⟩,
      ⟨some 40, .none, true, 28, .call { callee := .value (.func 14), args := #[.tmp 38, .tmp 39], argTypes := #[22, 26] }⟩,
      ⟨some 37, .none, true, 28, .move (.tmp 40)⟩,
      ⟨some 41, .none, true, 23, .extract (.tmp 37) 0⟩,
      ⟨some 42, .none, true, 4, .extract (.tmp 37) 1⟩,
      ⟨some 12, .none, true, 23, .assign (.tmp 41)⟩,
      ⟨some 13, .none, true, 4, .assign (.tmp 42)⟩])
  (.keep [0, 1, 2, 3, 4, 11, 12, 13]
  (.seq
    (.region [⟨some 44, .none, true, 63, .move (.tmp 11)⟩,
      ⟨some 45, .none, true, 26, .move (.tmp 1)⟩,
      ⟨some 46, .none, true, 28, .call { callee := .value (.func 40), args := #[.tmp 44, .tmp 45], argTypes := #[63, 26] }⟩,
      ⟨some 43, .none, true, 28, .move (.tmp 46)⟩,
      ⟨some 47, .none, true, 23, .extract (.tmp 43) 0⟩,
      ⟨some 48, .none, true, 4, .extract (.tmp 43) 1⟩,
      ⟨some 14, .none, true, 23, .assign (.tmp 47)⟩,
      ⟨some 15, .none, true, 4, .assign (.tmp 48)⟩])
  (.keep [0, 2, 3, 4, 11, 12, 13, 14, 15]
  (.seq
    (.region [⟨some 50, .none, true, 23, .move (.tmp 3)⟩,
      ⟨some 51, .none, true, 3, .move (.tmp 4)⟩,
      ⟨some 52, .none, true, 38, .call { callee := .value (.func 17), args := #[.tmp 50, .tmp 51], argTypes := #[23, 3] }⟩,
      ⟨some 49, .none, true, 38, .move (.tmp 52)⟩,
      ⟨some 53, .none, true, 37, .extract (.tmp 49) 0⟩,
      ⟨some 54, .none, true, 4, .extract (.tmp 49) 1⟩,
      ⟨some 16, .none, true, 37, .assign (.tmp 53)⟩,
      ⟨some 17, .none, true, 4, .assign (.tmp 54)⟩])
  (.keep [0, 2, 3, 4, 11, 12, 13, 14, 15, 16, 17]
  (.seq
    (.region [⟨some 56, .none, true, 23, .move (.tmp 3)⟩,
      ⟨some 57, .none, true, 3, .move (.tmp 4)⟩,
      ⟨some 58, .none, true, 28, .call { callee := .value (.func 41), args := #[.tmp 56, .tmp 57], argTypes := #[23, 3] }⟩,
      ⟨some 55, .none, true, 28, .move (.tmp 58)⟩,
      ⟨some 59, .none, true, 23, .extract (.tmp 55) 0⟩,
      ⟨some 60, .none, true, 4, .extract (.tmp 55) 1⟩,
      ⟨some 18, .none, true, 23, .assign (.tmp 59)⟩,
      ⟨some 19, .none, true, 4, .assign (.tmp 60)⟩])
  (.keep [0, 2, 3, 11, 12, 13, 14, 15, 16, 17, 18, 19]
  (.seq
    (.region [⟨some 61, .none, true, 23, .move (.tmp 2)⟩,
      ⟨some 20, .none, true, 37, .assign (.tmp 61)⟩])
  (.keep [0, 2, 3, 11, 12, 13, 14, 15, 16, 17, 18, 19, 20]
  (.seq
    (.region [⟨some 63, .none, true, 37, .move (.tmp 20)⟩,
      ⟨some 64, .none, true, 23, .move (.tmp 3)⟩,
      ⟨some 65, .none, true, 38, .call { callee := .value (.func 18), args := #[.tmp 63, .tmp 64], argTypes := #[37, 23] }⟩,
      ⟨some 62, .none, true, 38, .move (.tmp 65)⟩,
      ⟨some 66, .none, true, 37, .extract (.tmp 62) 0⟩,
      ⟨some 67, .none, true, 4, .extract (.tmp 62) 1⟩,
      ⟨some 21, .none, true, 37, .assign (.tmp 66)⟩,
      ⟨some 22, .none, true, 4, .assign (.tmp 67)⟩])
  (.keep [0, 2, 3, 11, 12, 13, 14, 15, 16, 17, 18, 19, 20, 21, 22]
  (.seq
    (.region [⟨some 69, .none, true, 23, .move (.tmp 3)⟩,
      ⟨some 70, .none, true, 23, .move (.tmp 2)⟩,
      ⟨some 71, .none, true, 23, .binOp .quo 23 (.tmp 70) (.const (.int .u64 281474976710656)) 23⟩,
      ⟨some 72, .none, true, 23, .binOp .add 23 (.tmp 71) (.const (.int .u64 1)) 23⟩,
      ⟨some 73, .none, true, 3, .convert 23 3 (.tmp 72)⟩,
      ⟨some 74, .none, true, 3, .binOp .rem 3 (.tmp 73) (.const (.int .i64 65536)) 3⟩,
      ⟨some 75, .none, true, 28, .call { callee := .value (.func 41), args := #[.tmp 69, .tmp 74], argTypes := #[23, 3] }⟩,
      ⟨some 68, .none, true, 28, .move (.tmp 75)⟩,
      ⟨some 76, .none, true, 23, .extract (.tmp 68) 0⟩,
      ⟨some 77, .none, true, 4, .extract (.tmp 68) 1⟩,
      ⟨some 23, .none, true, 23, .assign (.tmp 76)⟩,
      ⟨some 24, .none, true, 4, .assign (.tmp 77)⟩])
  (.keep [0, 2, 11, 12, 13, 14, 15, 16, 17, 18, 19, 20, 21, 22, 23, 24]
  (.seq
    (.region [⟨some 78, .none, true, 23, .move (.tmp 12)⟩,
      ⟨some 79, .none, true, 23, .move (.tmp 14)⟩,
      ⟨some 80, .none, true, 4, .binOp .eql 23 (.tmp 78) (.tmp 79) 23⟩,
      ⟨some 81, .none, true, 4, .move (.tmp 80)⟩,
      ⟨some 82, .some 81 true, true, 4, .move (.tmp 13)⟩,
      ⟨some 83, .some 81 true, true, 4, .move (.tmp 15)⟩,
      ⟨some 84, .some 81 true, true, 4, .binOp .eql 4 (.tmp 82) (.tmp 83) 4⟩,
      ⟨some 85, .none, true, 4, .pick (.tmp 81) (.tmp 84) (.const (.bool false))⟩,
      ⟨some 86, .none, true, 4, .move (.tmp 85)⟩,
      ⟨some 87, .some 86 true, true, 22, .move (.tmp 0)⟩,
      ⟨some 88, .some 86 true, true, 4, .call { callee := .value (.func 12), args := #[.tmp 87], argTypes := #[22] }⟩,
      ⟨some 89, .some 86 true, true, 63, .move (.tmp 11)⟩,
      ⟨some 90, .some 86 true, true, 4, .call { callee := .value (.func 42), args := #[.tmp 89], argTypes := #[63] }⟩,
      ⟨some 91, .some 86 true, true, 4, .binOp .eql 4 (.tmp 88) (.tmp 90) 4⟩,
      ⟨some 92, .none, true, 4, .pick (.tmp 86) (.tmp 91) (.const (.bool false))⟩,
      ⟨some 93, .none, true, 4, .move (.tmp 92)⟩,
      ⟨some 94, .some 93 true, true, 23, .move (.tmp 2)⟩,
      ⟨some 95, .some 93 true, true, 22, .move (.tmp 0)⟩,
      ⟨some 96, .some 93 true, true, 26, .call { callee := .value (.func 13), args := #[.tmp 94, .tmp 95], argTypes := #[23, 22] }⟩,
      ⟨some 97, .some 93 true, true, 23, .move (.tmp 2)⟩,
      ⟨some 98, .some 93 true, true, 63, .move (.tmp 11)⟩,
      ⟨some 99, .some 93 true, true, 26, .call { callee := .value (.func 43), args := #[.tmp 97, .tmp 98], argTypes := #[23, 63] }⟩,
      ⟨some 100, .some 93 true, true, 4, .call { callee := .value (.func 16), args := #[.tmp 96, .tmp 99], argTypes := #[26, 26] }⟩,
      ⟨some 101, .none, true, 4, .pick (.tmp 93) (.tmp 100) (.const (.bool false))⟩,
      ⟨some 102, .none, true, 4, .move (.tmp 101)⟩,
      ⟨some 103, .some 102 true, true, 23, .move (.tmp 2)⟩,
      ⟨some 104, .some 102 true, true, 22, .move (.tmp 0)⟩,
      ⟨some 105, .some 102 true, true, 23, .call { callee := .value (.func 15), args := #[.tmp 103, .tmp 104], argTypes := #[23, 22] }⟩,
      ⟨some 106, .some 102 true, true, 23, .move (.tmp 2)⟩,
      ⟨some 107, .some 102 true, true, 63, .move (.tmp 11)⟩,
      ⟨some 108, .some 102 true, true, 23, .call { callee := .value (.func 44), args := #[.tmp 106, .tmp 107], argTypes := #[23, 63] }⟩,
      ⟨some 109, .some 102 true, true, 4, .binOp .eql 23 (.tmp 105) (.tmp 108) 23⟩,
      ⟨some 110, .none, true, 4, .pick (.tmp 102) (.tmp 109) (.const (.bool false))⟩,
      ⟨some 111, .none, true, 4, .move (.tmp 110)⟩,
      ⟨some 112, .some 111 true, true, 37, .move (.tmp 16)⟩,
      ⟨some 113, .some 111 true, true, 23, .move (.tmp 18)⟩,
      ⟨some 114, .some 111 true, true, 4, .binOp .eql 23 (.tmp 112) (.tmp 113) 23⟩,
      ⟨some 115, .none, true, 4, .pick (.tmp 111) (.tmp 114) (.const (.bool false))⟩,
      ⟨some 116, .none, true, 4, .move (.tmp 115)⟩,
      ⟨some 117, .some 116 true, true, 4, .move (.tmp 17)⟩,
      ⟨some 118, .some 116 true, true, 4, .move (.tmp 19)⟩,
      ⟨some 119, .some 116 true, true, 4, .binOp .eql 4 (.tmp 117) (.tmp 118) 4⟩,
      ⟨some 120, .none, true, 4, .pick (.tmp 116) (.tmp 119) (.const (.bool false))⟩,
      ⟨some 121, .none, true, 4, .move (.tmp 120)⟩,
      ⟨some 122, .some 121 true, true, 37, .move (.tmp 20)⟩,
      ⟨some 123, .some 121 true, true, 23, .call { callee := .value (.func 19), args := #[.tmp 122], argTypes := #[37] }⟩,
      ⟨some 124, .some 121 true, true, 23, .move (.tmp 2)⟩,
      ⟨some 125, .some 121 true, true, 23, .binOp .rem 23 (.tmp 124) (.const (.int .u64 281474976710656)) 23⟩,
      ⟨some 126, .some 121 true, true, 4, .binOp .eql 23 (.tmp 123) (.tmp 125) 23⟩,
      ⟨some 127, .none, true, 4, .pick (.tmp 121) (.tmp 126) (.const (.bool false))⟩,
      ⟨some 128, .none, true, 4, .move (.tmp 127)⟩,
      ⟨some 129, .some 128 true, true, 37, .move (.tmp 20)⟩,
      ⟨some 130, .some 128 true, true, 3, .call { callee := .value (.func 20), args := #[.tmp 129], argTypes := #[37] }⟩,
      ⟨some 131, .some 128 true, true, 23, .move (.tmp 2)⟩,
      ⟨some 132, .some 128 true, true, 23, .binOp .quo 23 (.tmp 131) (.const (.int .u64 281474976710656)) 23⟩,
      ⟨some 133, .some 128 true, true, 3, .convert 23 3 (.tmp 132)⟩,
      ⟨some 134, .some 128 true, true, 4, .binOp .eql 3 (.tmp 130) (.tmp 133) 3⟩,
      ⟨some 135, .none, true, 4, .pick (.tmp 128) (.tmp 134) (.const (.bool false))⟩,
      ⟨some 136, .none, true, 4, .move (.tmp 135)⟩,
      ⟨some 137, .some 136 true, true, 37, .move (.tmp 21)⟩,
      ⟨some 138, .some 136 true, true, 23, .move (.tmp 23)⟩,
      ⟨some 139, .some 136 true, true, 4, .binOp .eql 23 (.tmp 137) (.tmp 138) 23⟩,
      ⟨some 140, .none, true, 4, .pick (.tmp 136) (.tmp 139) (.const (.bool false))⟩,
      ⟨some 141, .none, true, 4, .move (.tmp 140)⟩,
      ⟨some 142, .some 141 true, true, 4, .move (.tmp 22)⟩,
      ⟨some 143, .some 141 true, true, 4, .move (.tmp 24)⟩,
      ⟨some 144, .some 141 true, true, 4, .binOp .eql 4 (.tmp 142) (.tmp 143) 4⟩,
      ⟨some 145, .none, true, 4, .pick (.tmp 141) (.tmp 144) (.const (.bool false))⟩,
      ⟨some 10, .none, true, 4, .assign (.tmp 145)⟩])
  .ret)))))))))))))))))))))
theorem t10 : FnT Try.prog 10 rc10 [.tmp 10] 5 := ⟨⟨Try.f10, _, Try.func10, rfl, by kernel_rfl, by kernel_rfl, by kernel_rfl, rfl, by decide⟩, by kernel_rfl⟩
/-- reeve/reevelaw4.awake -/
def rc11 : RCode :=
  (.seq
    (.region [⟨some 0, .none, true, 4, .assign (.const (.bool false))⟩])
  (.keep []
  (.seq
    (.region [⟨some 4, .none, true, 34, .build 34 #[(0, .const (.int .i64 0)), (1, .const (.int .i64 4))]⟩,
      ⟨some 5, .none, true, 34, .build 34 #[(0, .const (.int .i64 4)), (1, .const (.int .i64 4))]⟩,
      ⟨some 6, .none, true, 22, .buildSlice 22 2 #[(0, .tmp 4), (1, .tmp 5)]⟩,
      ⟨some 1, .none, true, 22, .assign (.tmp 6)⟩])
  (.keep [1]
  (.seq
    (.region [⟨some 8, .none, true, 22, .move (.tmp 1)⟩,
      ⟨some 9, .none, true, 26, .buildSlice 26 2 #[(0, .const (.int .u64 1)), (1, .const (.int .u64 2))]⟩,
      ⟨some 10, .none, true, 28, .call { callee := .value (.func 14), args := #[.tmp 8, .tmp 9], argTypes := #[22, 26] }⟩,
      ⟨some 7, .none, true, 28, .move (.tmp 10)⟩,
      ⟨some 11, .none, true, 23, .extract (.tmp 7) 0⟩,
      ⟨some 12, .none, true, 4, .extract (.tmp 7) 1⟩,
      ⟨some 2, .none, true, 23, .assign (.tmp 11)⟩,
      ⟨some 3, .none, true, 4, .assign (.tmp 12)⟩])
  (.keep [1, 2, 3]
  (.seq
    (.region [⟨some 13, .none, true, 4, .move (.tmp 3)⟩,
      ⟨some 14, .none, true, 4, .move (.tmp 13)⟩,
      ⟨some 15, .some 14 true, true, 23, .move (.tmp 2)⟩,
      ⟨some 16, .some 14 true, true, 4, .binOp .eql 23 (.tmp 15) (.const (.int .u64 33)) 23⟩,
      ⟨some 17, .none, true, 4, .pick (.tmp 14) (.tmp 16) (.const (.bool false))⟩,
      ⟨some 18, .none, true, 4, .move (.tmp 17)⟩,
      ⟨some 19, .some 18 true, true, 22, .move (.tmp 1)⟩,
      ⟨some 20, .some 18 true, true, 26, .call { callee := .value (.func 13), args := #[.const (.int .u64 33), .tmp 19], argTypes := #[23, 22] }⟩,
      ⟨some 21, .some 18 true, true, 26, .buildSlice 26 2 #[(0, .const (.int .u64 1)), (1, .const (.int .u64 2))]⟩,
      ⟨some 22, .some 18 true, true, 4, .call { callee := .value (.func 16), args := #[.tmp 20, .tmp 21], argTypes := #[26, 26] }⟩,
      ⟨some 23, .none, true, 4, .pick (.tmp 18) (.tmp 22) (.const (.bool false))⟩,
      ⟨some 24, .none, true, 4, .move (.tmp 23)⟩,
      ⟨some 25, .some 24 true, true, 22, .move (.tmp 1)⟩,
      ⟨some 26, .some 24 true, true, 4, .call { callee := .value (.func 12), args := #[.tmp 25], argTypes := #[22] }⟩,
      ⟨some 27, .none, true, 4, .pick (.tmp 24) (.tmp 26) (.const (.bool false))⟩,
      ⟨some 0, .none, true, 4, .assign (.tmp 27)⟩])
  .ret)))))))
theorem t11 : FnT Try.prog 11 rc11 [.tmp 0] 0 := ⟨⟨Try.f11, _, Try.func11, rfl, by kernel_rfl, by kernel_rfl, by kernel_rfl, rfl, by decide⟩, by kernel_rfl⟩
/-- reeve/tag.Good -/
def rc12 : RCode :=
  (.seq
    (.region [⟨some 2, .none, true, 4, .assign (.const (.bool false))⟩])
  (.keep [0]
  (.seq
    (.region [⟨some 6, .none, true, 22, .move (.tmp 0)⟩,
      ⟨some 7, .none, true, 28, .call { callee := .value (.func 45), args := #[.tmp 6], argTypes := #[22] }⟩,
      ⟨some 5, .none, true, 28, .move (.tmp 7)⟩,
      ⟨some 8, .none, true, 23, .extract (.tmp 5) 0⟩,
      ⟨some 9, .none, true, 4, .extract (.tmp 5) 1⟩,
      ⟨some 3, .none, true, 23, .assign (.tmp 8)⟩,
      ⟨some 4, .none, true, 4, .assign (.tmp 9)⟩])
  (.keep [4]
  (.seq
    (.region [⟨some 10, .none, true, 4, .move (.tmp 4)⟩,
      ⟨some 2, .none, true, 4, .assign (.tmp 10)⟩])
  .ret)))))
theorem t12 : FnT Try.prog 12 rc12 [.tmp 2] 1 := ⟨⟨Try.f12, _, Try.func12, rfl, by kernel_rfl, by kernel_rfl, by kernel_rfl, rfl, by decide⟩, by kernel_rfl⟩
/-- reeve/tag.Get -/
def rc13l0 : RCode :=
  (.seq
    (.region [⟨some 17, .none, true, 0, .binOp .lss 3 (.tmp 16) (.tmp 15) 3⟩])
  (.keep [0, 5, 14, 15, 16, 17]
  (.seq
    (.cond (.tmp 17)
      .skip
      (.exit 0))
  (.keep [0, 5, 14, 15, 16]
  (.seq
    (.block 1
      (.seq
        (.region [⟨some 18, .none, true, 0, .indexAddr 22 (.tmp 14) (.tmp 16)⟩,
          ⟨some 19, .none, true, 34, .load 34 (.tmp 18)⟩,
          ⟨some 7, .none, true, 0, .alloc 34⟩,
          ⟨none, .none, true, 0, .store 34 (.tmp 7) (.tmp 19)⟩])
      (.keep [0, 5, 7, 14, 15, 16]
      (.region [⟨some 20, .none, false, 26, .move (.tmp 5)⟩,
        ⟨some 21, .none, false, 23, .move (.tmp 0)⟩,
        ⟨some 22, .none, false, 34, .load 34 (.tmp 7)⟩,
        ⟨some 23, .none, false, 23, .call { callee := .value (.func 46), args := #[.tmp 22], argTypes := #[34] }⟩,
        ⟨some 24, .none, false, 23, .binOp .and 23 (.tmp 21) (.tmp 23) 23⟩,
        ⟨some 25, .none, false, 0, .fieldAddr 34 (.tmp 7) 0⟩,
        ⟨some 26, .none, false, 3, .load 3 (.tmp 25)⟩,
        ⟨some 27, .none, true, 23, .binOp .shr 23 (.tmp 24) (.tmp 26) 3⟩,
        ⟨some 28, .none, true, 26, .buildSlice 26 1 #[(0, .tmp 27)]⟩,
        ⟨some 29, .none, true, 26, .call { callee := .builtin .append, args := #[.tmp 20, .tmp 28], argTypes := #[26, 26] }⟩,
        ⟨some 5, .none, true, 26, .assign (.tmp 29)⟩]))))
  (.keep [0, 5, 14, 15, 16]
  (.region [⟨some 30, .none, true, 3, .binOp .add 3 (.tmp 16) (.const (.int .i64 1)) 3⟩,
    ⟨some 16, .none, true, 3, .move (.tmp 30)⟩])))))))
def rc13 : RCode :=
  (.seq
    (.region [⟨some 4, .none, true, 26, .assign (.const (.slice none 0 0))⟩])
  (.keep [0, 1]
  (.seq
    (.seq
      (.region [⟨some 8, .none, true, 22, .move (.tmp 1)⟩,
        ⟨some 9, .none, true, 4, .call { callee := .value (.func 12), args := #[.tmp 8], argTypes := #[22] }⟩,
        ⟨some 10, .none, true, 4, .unOp .not 4 (.tmp 9)⟩])
    (.keep [0, 1, 10]
    (.cond (.tmp 10)
      (.seq
        (.region [⟨some 4, .none, true, 26, .assign (.const (.slice none 0 0))⟩])
      .ret)
      .skip)))
  (.seq
    (.region [⟨some 11, .none, true, 22, .move (.tmp 1)⟩,
      ⟨some 12, .none, true, 3, .call { callee := .builtin .len, args := #[.tmp 11], argTypes := #[22] }⟩,
      ⟨some 13, .none, true, 26, .makeSlice 26 (.const (.int .i64 0)) (.tmp 12)⟩,
      ⟨some 5, .none, true, 26, .assign (.tmp 13)⟩])
  (.keep [0, 1, 5]
  (.seq
    (.seq
      (.region [⟨some 14, .none, true, 22, .move (.tmp 1)⟩,
        ⟨some 15, .none, true, 3, .call { callee := .builtin .len, args := #[.tmp 14], argTypes := #[22] }⟩,
        ⟨some 16, .none, true, 3, .move (.const (.int .i64 0))⟩])
    (.keep [0, 5, 14, 15, 16]
    (.block 0
      (.loop [0, 5, 14, 15, 16] rc13l0))))
  (.seq
    (.region [⟨some 31, .none, true, 26, .move (.tmp 5)⟩,
      ⟨some 4, .none, true, 26, .assign (.tmp 31)⟩])
  .ret)))))))
theorem t13 : FnT Try.prog 13 rc13 [.tmp 4] 2 := ⟨⟨Try.f13, _, Try.func13, rfl, by kernel_rfl, by kernel_rfl, by kernel_rfl, rfl, by decide⟩, by kernel_rfl⟩
/-- reeve/tag.Put -/
def rc14l0 : RCode :=
  (.seq
    (.region [⟨some 22, .none, true, 0, .binOp .lss 3 (.tmp 21) (.tmp 20) 3⟩])
  (.keep [1, 6, 19, 20, 21, 22]
  (.seq
    (.cond (.tmp 22)
      .skip
      (.exit 0))
  (.keep [1, 6, 19, 20, 21]
  (.seq
    (.block 1
      (.seq
        (.region [⟨some 23, .none, true, 3, .move (.tmp 21)⟩,
          ⟨some 24, .none, true, 0, .indexAddr 22 (.tmp 19) (.tmp 21)⟩,
          ⟨some 25, .none, true, 34, .load 34 (.tmp 24)⟩,
          ⟨some 8, .none, true, 0, .alloc 34⟩,
          ⟨some 7, .none, true, 3, .assign (.tmp 23)⟩,
          ⟨none, .none, true, 0, .store 34 (.tmp 8) (.tmp 25)⟩])
      (.keep [1, 6, 7, 8, 19, 20, 21]
      (.seq
        (.seq
          (.region [⟨some 26, .none, false, 26, .move (.tmp 1)⟩,
            ⟨some 27, .none, false, 3, .move (.tmp 7)⟩,
            ⟨some 28, .none, false, 0, .indexAddr 26 (.tmp 26) (.tmp 27)⟩,
            ⟨some 29, .none, false, 23, .load 23 (.tmp 28)⟩,
            ⟨some 30, .none, false, 34, .load 34 (.tmp 8)⟩,
            ⟨some 31, .none, false, 23, .call { callee := .value (.func 46), args := #[.tmp 30], argTypes := #[34] }⟩,
            ⟨some 32, .none, false, 0, .fieldAddr 34 (.tmp 8) 0⟩,
            ⟨some 33, .none, false, 3, .load 3 (.tmp 32)⟩,
            ⟨some 34, .none, false, 23, .binOp .shr 23 (.tmp 31) (.tmp 33) 3⟩,
            ⟨some 35, .none, true, 4, .binOp .gtr 23 (.tmp 29) (.tmp 34) 23⟩])
        (.keep [1, 6, 7, 8, 19, 20, 21, 35]
        (.cond (.tmp 35)
          (.seq
            (.region [⟨some 4, .none, true, 23, .assign (.const (.int .u64 0))⟩,
              ⟨some 5, .none, true, 4, .assign (.const (.bool false))⟩])
          .ret)
          .skip)))
      (.region [⟨some 36, .none, false, 23, .move (.tmp 6)⟩,
        ⟨some 37, .none, false, 26, .move (.tmp 1)⟩,
        ⟨some 38, .none, false, 3, .move (.tmp 7)⟩,
        ⟨some 39, .none, false, 0, .indexAddr 26 (.tmp 37) (.tmp 38)⟩,
        ⟨some 40, .none, false, 23, .load 23 (.tmp 39)⟩,
        ⟨some 41, .none, false, 0, .fieldAddr 34 (.tmp 8) 0⟩,
        ⟨some 42, .none, false, 3, .load 3 (.tmp 41)⟩,
        ⟨some 43, .none, true, 23, .binOp .shl 23 (.tmp 40) (.tmp 42) 3⟩,
        ⟨some 44, .none, true, 23, .binOp .or 23 (.tmp 36) (.tmp 43) 23⟩,
        ⟨some 6, .none, true, 23, .assign (.tmp 44)⟩])))))
  (.keep [1, 6, 19, 20, 21]
  (.region [⟨some 45, .none, true, 3, .binOp .add 3 (.tmp 21) (.const (.int .i64 1)) 3⟩,
    ⟨some 21, .none, true, 3, .move (.tmp 45)⟩])))))))
def rc14 : RCode :=
  (.seq
    (.region [⟨some 4, .none, true, 23, .assign (.const (.int .u64 0))⟩,
      ⟨some 5, .none, true, 4, .assign (.const (.bool false))⟩])
  (.keep [0, 1]
  (.seq
    (.seq
      (.region [⟨some 9, .none, true, 22, .move (.tmp 0)⟩,
        ⟨some 10, .none, true, 4, .call { callee := .value (.func 12), args := #[.tmp 9], argTypes := #[22] }⟩,
        ⟨some 11, .none, true, 4, .unOp .not 4 (.tmp 10)⟩,
        ⟨some 12, .none, true, 4, .move (.tmp 11)⟩,
        ⟨some 13, .some 12 false, true, 22, .move (.tmp 0)⟩,
        ⟨some 14, .some 12 false, true, 3, .call { callee := .builtin .len, args := #[.tmp 13], argTypes := #[22] }⟩,
        ⟨some 15, .some 12 false, true, 26, .move (.tmp 1)⟩,
        ⟨some 16, .some 12 false, true, 3, .call { callee := .builtin .len, args := #[.tmp 15], argTypes := #[26] }⟩,
        ⟨some 17, .some 12 false, true, 4, .binOp .neq 3 (.tmp 14) (.tmp 16) 3⟩,
        ⟨some 18, .none, true, 4, .pick (.tmp 12) (.const (.bool true)) (.tmp 17)⟩])
    (.keep [0, 1, 18]
    (.cond (.tmp 18)
      (.seq
        (.region [⟨some 4, .none, true, 23, .assign (.const (.int .u64 0))⟩,
          ⟨some 5, .none, true, 4, .assign (.const (.bool false))⟩])
      .ret)
      .skip)))
  (.seq
    (.region [⟨some 6, .none, true, 23, .assign (.const (.int .u64 0))⟩])
  (.keep [0, 1, 6]
  (.seq
    (.seq
      (.region [⟨some 19, .none, true, 22, .move (.tmp 0)⟩,
        ⟨some 20, .none, true, 3, .call { callee := .builtin .len, args := #[.tmp 19], argTypes := #[22] }⟩,
        ⟨some 21, .none, true, 3, .move (.const (.int .i64 0))⟩])
    (.keep [1, 6, 19, 20, 21]
    (.block 0
      (.loop [1, 6, 19, 20, 21] rc14l0))))
  (.seq
    (.region [⟨some 46, .none, true, 23, .move (.tmp 6)⟩,
      ⟨some 4, .none, true, 23, .assign (.tmp 46)⟩,
      ⟨some 5, .none, true, 4, .assign (.const (.bool true))⟩])
  .ret)))))))
theorem t14 : FnT Try.prog 14 rc14 [.tmp 4, .tmp 5] 2 := ⟨⟨Try.f14, _, Try.func14, rfl, by kernel_rfl, by kernel_rfl, by kernel_rfl, rfl, by decide⟩, by kernel_rfl⟩
/-- reeve/tag.Rest -/
def rc15 : RCode :=
  (.seq
    (.region [⟨some 4, .none, true, 23, .assign (.const (.int .u64 0))⟩])
  (.keep [0, 1]
  (.seq
    (.region [⟨some 8, .none, true, 22, .move (.tmp 1)⟩,
      ⟨some 9, .none, true, 28, .call { callee := .value (.func 45), args := #[.tmp 8], argTypes := #[22] }⟩,
      ⟨some 7, .none, true, 28, .move (.tmp 9)⟩,
      ⟨some 10, .none, true, 23, .extract (.tmp 7) 0⟩,
      ⟨some 11, .none, true, 4, .extract (.tmp 7) 1⟩,
      ⟨some 5, .none, true, 23, .assign (.tmp 10)⟩,
      ⟨some 6, .none, true, 4, .assign (.tmp 11)⟩])
  (.keep [0, 5]
  (.seq
    (.region [⟨some 12, .none, true, 23, .move (.tmp 0)⟩,
      ⟨some 13, .none, true, 23, .move (.tmp 5)⟩,
      ⟨some 14, .none, true, 23, .binOp .andNot 23 (.tmp 12) (.tmp 13) 23⟩,
      ⟨some 4, .none, true, 23, .assign (.tmp 14)⟩])
  .ret)))))
theorem t15 : FnT Try.prog 15 rc15 [.tmp 4] 2 := ⟨⟨Try.f15, _, Try.func15, rfl, by kernel_rfl, by kernel_rfl, by kernel_rfl, rfl, by decide⟩, by kernel_rfl⟩
/-- reeve/reevelaw4.words -/
def rc16l0 : RCode :=
  (.seq
    (.seq
      (.region [⟨some 11, .none, true, 3, .move (.tmp 5)⟩,
        ⟨some 12, .none, true, 26, .move (.tmp 0)⟩,
        ⟨some 13, .none, true, 3, .call { callee := .builtin .len, args := #[.tmp 12], argTypes := #[26] }⟩,
        ⟨some 14, .none, true, 4, .binOp .lss 3 (.tmp 11) (.tmp 13) 3⟩])
    (.keep [0, 1, 5, 14]
    (.cond (.tmp 14)
      .skip
      (.exit 0))))
  (.seq
    (.block 1
      (.seq
        (.region [⟨some 17, .none, false, 26, .move (.tmp 0)⟩,
          ⟨some 18, .none, false, 3, .move (.tmp 5)⟩,
          ⟨some 19, .none, false, 0, .indexAddr 26 (.tmp 17) (.tmp 18)⟩,
          ⟨some 20, .none, false, 23, .load 23 (.tmp 19)⟩,
          ⟨some 21, .none, false, 26, .move (.tmp 1)⟩,
          ⟨some 22, .none, false, 3, .move (.tmp 5)⟩,
          ⟨some 23, .none, false, 0, .indexAddr 26 (.tmp 21) (.tmp 22)⟩,
          ⟨some 24, .none, false, 23, .load 23 (.tmp 23)⟩,
          ⟨some 25, .none, true, 4, .binOp .neq 23 (.tmp 20) (.tmp 24) 23⟩])
      (.keep [0, 1, 5, 25]
      (.cond (.tmp 25)
        (.seq
          (.region [⟨some 4, .none, true, 4, .assign (.const (.bool false))⟩])
        .ret)
        .skip))))
  (.keep [0, 1, 5]
  (.region [⟨some 15, .none, true, 3, .move (.tmp 5)⟩,
    ⟨some 16, .none, true, 3, .binOp .add 3 (.tmp 15) (.const (.int .i64 1)) 3⟩,
    ⟨some 5, .none, true, 3, .assign (.tmp 16)⟩]))))
def rc16 : RCode :=
  (.seq
    (.region [⟨some 4, .none, true, 4, .assign (.const (.bool false))⟩])
  (.keep [0, 1]
  (.seq
    (.seq
      (.region [⟨some 6, .none, true, 26, .move (.tmp 0)⟩,
        ⟨some 7, .none, true, 3, .call { callee := .builtin .len, args := #[.tmp 6], argTypes := #[26] }⟩,
        ⟨some 8, .none, true, 26, .move (.tmp 1)⟩,
        ⟨some 9, .none, true, 3, .call { callee := .builtin .len, args := #[.tmp 8], argTypes := #[26] }⟩,
        ⟨some 10, .none, true, 4, .binOp .neq 3 (.tmp 7) (.tmp 9) 3⟩])
    (.keep [0, 1, 10]
    (.cond (.tmp 10)
      (.seq
        (.region [⟨some 4, .none, true, 4, .assign (.const (.bool false))⟩])
      .ret)
      .skip)))
  (.seq
    (.seq
      (.region [⟨some 5, .none, true, 3, .assign (.const (.int .i64 0))⟩])
    (.keep [0, 1, 5]
    (.block 0
      (.loop [0, 1, 5] rc16l0))))
  (.seq
    (.region [⟨some 4, .none, true, 4, .assign (.const (.bool true))⟩])
  .ret)))))
theorem t16 : FnT Try.prog 16 rc16 [.tmp 4] 2 := ⟨⟨Try.f16, _, Try.func16, rfl, by kernel_rfl, by kernel_rfl, by kernel_rfl, rfl, by decide⟩, by kernel_rfl⟩
/-- reeve/tag.Make -/
def rc17 : RCode :=
  (.seq
    (.region [⟨some 4, .none, true, 37, .assign (.const (.int .u64 0))⟩,
      ⟨some 5, .none, true, 4, .assign (.const (.bool false))⟩])
  (.keep [0, 1]
  (.seq
    (.seq
      (.region [⟨some 6, .none, true, 23, .move (.tmp 0)⟩,
        ⟨some 7, .none, true, 4, .binOp .geq 23 (.tmp 6) (.const (.int .u64 281474976710656)) 23⟩,
        ⟨some 8, .none, true, 4, .move (.tmp 7)⟩,
        ⟨some 9, .some 8 false, true, 3, .move (.tmp 1)⟩,
        ⟨some 10, .some 8 false, true, 4, .binOp .lss 3 (.tmp 9) (.const (.int .i64 0)) 3⟩,
        ⟨some 11, .none, true, 4, .pick (.tmp 8) (.const (.bool true)) (.tmp 10)⟩,
        ⟨some 12, .none, true, 4, .move (.tmp 11)⟩,
        ⟨some 13, .some 12 false, true, 3, .move (.tmp 1)⟩,
        ⟨some 14, .some 12 false, true, 4, .binOp .gtr 3 (.tmp 13) (.const (.int .i64 65535)) 3⟩,
        ⟨some 15, .none, true, 4, .pick (.tmp 12) (.const (.bool true)) (.tmp 14)⟩])
    (.keep [0, 1, 15]
    (.cond (.tmp 15)
      (.seq
        (.region [⟨some 4, .none, true, 37, .assign (.const (.int .u64 0))⟩,
          ⟨some 5, .none, true, 4, .assign (.const (.bool false))⟩])
      .ret)
      .skip)))
  (.seq
    (.region [⟨some 16, .none, true, 23, .move (.tmp 0)⟩,
      ⟨some 17, .none, true, 3, .move (.tmp 1)⟩,
      ⟨some 18, .none, true, 23, .convert 3 23 (.tmp 17)⟩,
      ⟨some 19, .none, true, 23, .binOp .shl 23 (.tmp 18) (.const (.int .u64 48)) 35⟩,
      ⟨some 20, .none, true, 23, .binOp .or 23 (.tmp 16) (.tmp 19) 23⟩,
      ⟨some 4, .none, true, 37, .assign (.tmp 20)⟩,
      ⟨some 5, .none, true, 4, .assign (.const (.bool true))⟩])
  .ret))))
theorem t17 : FnT Try.prog 17 rc17 [.tmp 4, .tmp 5] 2 := ⟨⟨Try.f17, _, Try.func17, rfl, by kernel_rfl, by kernel_rfl, by kernel_rfl, rfl, by decide⟩, by kernel_rfl⟩
/-- (reeve/tag.Ver).Next -/
def rc18 : RCode :=
  (.seq
    (.region [⟨some 4, .none, true, 37, .assign (.const (.int .u64 0))⟩,
      ⟨some 5, .none, true, 4, .assign (.const (.bool false))⟩])
  (.keep [0, 1]
  (.seq
    (.region [⟨some 6, .none, true, 23, .move (.tmp 1)⟩,
      ⟨some 7, .none, true, 37, .move (.tmp 0)⟩,
      ⟨some 8, .none, true, 3, .call { callee := .value (.func 20), args := #[.tmp 7], argTypes := #[37] }⟩,
      ⟨some 9, .none, true, 3, .binOp .add 3 (.tmp 8) (.const (.int .i64 1)) 3⟩,
      ⟨some 10, .none, true, 3, .binOp .and 3 (.tmp 9) (.const (.int .i64 65535)) 3⟩,
      ⟨some 11, .none, true, 38, .call { callee := .value (.func 17), args := #[.tmp 6, .tmp 10], argTypes := #[23, 3] }⟩,
      ⟨some 12, .none, true, 37, .extract (.tmp 11) 0⟩,
      ⟨some 13, .none, true, 4, .extract (.tmp 11) 1⟩,
      ⟨some 4, .none, true, 37, .assign (.tmp 12)⟩,
      ⟨some 5, .none, true, 4, .assign (.tmp 13)⟩])
  .ret)))
theorem t18 : FnT Try.prog 18 rc18 [.tmp 4, .tmp 5] 2 := ⟨⟨Try.f18, _, Try.func18, rfl, by kernel_rfl, by kernel_rfl, by kernel_rfl, rfl, by decide⟩, by kernel_rfl⟩
/-- (reeve/tag.Ver).Value -/
def rc19 : RCode :=
  (.seq
    (.region [⟨some 2, .none, true, 23, .assign (.const (.int .u64 0))⟩])
  (.keep [0]
  (.seq
    (.region [⟨some 3, .none, true, 37, .move (.tmp 0)⟩,
      ⟨some 4, .none, true, 23, .binOp .and 23 (.tmp 3) (.const (.int .u64 281474976710655)) 23⟩,
      ⟨some 2, .none, true, 23, .assign (.tmp 4)⟩])
  .ret)))
theorem t19 : FnT Try.prog 19 rc19 [.tmp 2] 1 := ⟨⟨Try.f19, _, Try.func19, rfl, by kernel_rfl, by kernel_rfl, by kernel_rfl, rfl, by decide⟩, by kernel_rfl⟩
/-- (reeve/tag.Ver).Version -/
def rc20 : RCode :=
  (.seq
    (.region [⟨some 2, .none, true, 3, .assign (.const (.int .i64 0))⟩])
  (.keep [0]
  (.seq
    (.region [⟨some 3, .none, true, 37, .move (.tmp 0)⟩,
      ⟨some 4, .none, true, 37, .binOp .shr 37 (.tmp 3) (.const (.int .u64 48)) 35⟩,
      ⟨some 5, .none, true, 3, .convert 37 3 (.tmp 4)⟩,
      ⟨some 2, .none, true, 3, .assign (.tmp 5)⟩])
  .ret)))
theorem t20 : FnT Try.prog 20 rc20 [.tmp 2] 1 := ⟨⟨Try.f20, _, Try.func20, rfl, by kernel_rfl, by kernel_rfl, by kernel_rfl, rfl, by decide⟩, by kernel_rfl⟩
/-- reeve/reevelaw5.awake -/
def rc21 : RCode :=
  (.seq
    (.region [⟨some 0, .none, true, 4, .assign (.const (.bool false))⟩])
  (.keep []
  (.seq
    (.region [⟨some 2, .none, true, 45, .call { callee := .value (.func 30), args := #[], argTypes := #[] }⟩,
      ⟨some 1, .none, true, 0, .alloc 45⟩,
      ⟨none, .none, true, 0, .store 45 (.tmp 1) (.tmp 2)⟩])
  (.keep [1]
  (.seq
    (.region [⟨some 3, .none, true, 45, .load 45 (.tmp 1)⟩,
      ⟨some 4, .none, true, 45, .build 45 #[(0, .const (.int .i64 2)), (1, .const (.int .i64 32)), (2, .const (.int .i64 16))]⟩,
      ⟨some 5, .none, true, 4, .binOp .eql 45 (.tmp 3) (.tmp 4) 45⟩,
      ⟨some 6, .none, true, 4, .move (.tmp 5)⟩,
      ⟨some 7, .some 6 true, true, 45, .load 45 (.tmp 1)⟩,
      ⟨some 8, .some 6 true, true, 4, .call { callee := .value (.func 23), args := #[.tmp 7], argTypes := #[45] }⟩,
      ⟨some 9, .none, true, 4, .pick (.tmp 6) (.tmp 8) (.const (.bool false))⟩,
      ⟨some 10, .none, true, 4, .move (.tmp 9)⟩,
      ⟨some 11, .some 10 true, true, 45, .load 45 (.tmp 1)⟩,
      ⟨some 12, .some 10 true, true, 3, .call { callee := .value (.func 25), args := #[.tmp 11], argTypes := #[45] }⟩,
      ⟨some 13, .some 10 true, true, 4, .binOp .eql 3 (.tmp 12) (.const (.int .i64 8)) 3⟩,
      ⟨some 14, .none, true, 4, .pick (.tmp 10) (.tmp 13) (.const (.bool false))⟩,
      ⟨some 15, .none, true, 4, .move (.tmp 14)⟩,
      ⟨some 16, .some 15 true, true, 45, .load 45 (.tmp 1)⟩,
      ⟨some 17, .some 15 true, true, 3, .call { callee := .value (.func 26), args := #[.tmp 16, .const (.int .i64 0)], argTypes := #[45, 3] }⟩,
      ⟨some 18, .some 15 true, true, 4, .binOp .eql 3 (.tmp 17) (.const (.int .i64 2432)) 3⟩,
      ⟨some 19, .none, true, 4, .pick (.tmp 15) (.tmp 18) (.const (.bool false))⟩,
      ⟨some 20, .none, true, 4, .move (.tmp 19)⟩,
      ⟨some 21, .some 20 true, true, 45, .load 45 (.tmp 1)⟩,
      ⟨some 22, .some 20 true, true, 3, .call { callee := .value (.func 29), args := #[.tmp 21, .const (.int .i64 1)], argTypes := #[45, 3] }⟩,
      ⟨some 23, .some 20 true, true, 4, .binOp .eql 3 (.tmp 22) (.const (.int .i64 8)) 3⟩,
      ⟨some 24, .none, true, 4, .pick (.tmp 20) (.tmp 23) (.const (.bool false))⟩,
      ⟨some 0, .none, true, 4, .assign (.tmp 24)⟩])
  .ret)))))
theorem t21 : FnT Try.prog 21 rc21 [.tmp 0] 0 := ⟨⟨Try.f21, _, Try.func21, rfl, by kernel_rfl, by kernel_rfl, by kernel_rfl, rfl, by decide⟩, by kernel_rfl⟩
/-- reeve/geo.Desc -/
def rc22 : RCode :=
  (.seq
    (.region [⟨some 2, .none, true, 0, .box 45 (.tmp 0)⟩,
      ⟨some 4, .none, true, 3, .assign (.const (.int .i64 0))⟩,
      ⟨some 5, .none, true, 3, .assign (.const (.int .i64 0))⟩])
  (.keep [1, 2]
  (.seq
    (.seq
      (.region [⟨some 6, .none, true, 45, .load 45 (.tmp 2)⟩,
        ⟨some 7, .none, true, 4, .call { callee := .value (.func 23), args := #[.tmp 6], argTypes := #[45] }⟩,
        ⟨some 8, .none, true, 4, .unOp .not 4 (.tmp 7)⟩,
        ⟨some 9, .none, true, 4, .move (.tmp 8)⟩,
        ⟨some 10, .some 9 false, true, 3, .move (.tmp 1)⟩,
        ⟨some 11, .some 9 false, true, 0, .fieldAddr 45 (.tmp 2) 0⟩,
        ⟨some 12, .some 9 false, true, 3, .load 3 (.tmp 11)⟩,
        ⟨some 13, .some 9 false, true, 3, .binOp .sub 3 (.tmp 12) (.const (.int .i64 1)) 3⟩,
        ⟨some 14, .some 9 false, true, 4, .call { callee := .value (.func 47), args := #[.tmp 10, .const (.int .i64 0), .tmp 13], argTypes := #[3, 3, 3] }⟩,
        ⟨some 15, .some 9 false, true, 4, .unOp .not 4 (.tmp 14)⟩,
        ⟨some 16, .none, true, 4, .pick (.tmp 9) (.const (.bool true)) (.tmp 15)⟩])
    (.keep [1, 16]
    (.cond (.tmp 16)
      (.seq
        (.region [⟨some 4, .none, true, 3, .assign (.const (.int .i64 0))⟩,
          ⟨some 5, .none, true, 3, .assign (.const (.int .i64 0))⟩])
      .ret)
      .skip)))
  (.seq
    (.region [⟨some 17, .none, true, 3, .move (.tmp 1)⟩,
      ⟨some 18, .none, true, 3, .binOp .mul 3 (.tmp 17) (.const (.int .i64 1208)) 3⟩,
      ⟨some 19, .none, true, 3, .binOp .add 3 (.const (.int .i64 16)) (.tmp 18) 3⟩,
      ⟨some 4, .none, true, 3, .assign (.tmp 19)⟩,
      ⟨some 5, .none, true, 3, .assign (.const (.int .i64 1208))⟩])
  .ret))))
theorem t22 : FnT Try.prog 22 rc22 [.tmp 4, .tmp 5] 2 := ⟨⟨Try.f22, _, Try.func22, rfl, by kernel_rfl, by kernel_rfl, by kernel_rfl, rfl, by decide⟩, by kernel_rfl⟩
/-- reeve/geo.Good -/
def rc23 : RCode :=
  (.seq
    (.region [⟨some 1, .none, true, 0, .box 45 (.tmp 0)⟩,
      ⟨some 2, .none, true, 4, .assign (.const (.bool false))⟩])
  (.keep [1]
  (.seq
    (.region [⟨some 3, .none, true, 0, .fieldAddr 45 (.tmp 1) 0⟩,
      ⟨some 4, .none, true, 3, .load 3 (.tmp 3)⟩,
      ⟨some 5, .none, true, 4, .call { callee := .value (.func 47), args := #[.tmp 4, .const (.int .i64 1), .const (.int .i64 4)], argTypes := #[3, 3, 3] }⟩,
      ⟨some 6, .none, true, 4, .move (.tmp 5)⟩,
      ⟨some 7, .some 6 true, true, 0, .fieldAddr 45 (.tmp 1) 1⟩,
      ⟨some 8, .some 6 true, true, 3, .load 3 (.tmp 7)⟩,
      ⟨some 9, .some 6 true, true, 0, .fieldAddr 45 (.tmp 1) 0⟩,
      ⟨some 10, .some 6 true, true, 3, .load 3 (.tmp 9)⟩,
      ⟨some 11, .some 6 true, true, 3, .binOp .mul 3 (.const (.int .i64 8)) (.tmp 10) 3⟩,
      ⟨some 12, .some 6 true, true, 4, .call { callee := .value (.func 47), args := #[.tmp 8, .tmp 11, .const (.int .i64 96)], argTypes := #[3, 3, 3] }⟩,
      ⟨some 13, .none, true, 4, .pick (.tmp 6) (.tmp 12) (.const (.bool false))⟩,
      ⟨some 14, .none, true, 4, .move (.tmp 13)⟩,
      ⟨some 15, .some 14 true, true, 0, .fieldAddr 45 (.tmp 1) 1⟩,
      ⟨some 16, .some 14 true, true, 3, .load 3 (.tmp 15)⟩,
      ⟨some 17, .some 14 true, true, 3, .binOp .rem 3 (.tmp 16) (.const (.int .i64 8)) 3⟩,
      ⟨some 18, .some 14 true, true, 4, .binOp .eql 3 (.tmp 17) (.const (.int .i64 0)) 3⟩,
      ⟨some 19, .none, true, 4, .pick (.tmp 14) (.tmp 18) (.const (.bool false))⟩,
      ⟨some 20, .none, true, 4, .move (.tmp 19)⟩,
      ⟨some 21, .some 20 true, true, 0, .fieldAddr 45 (.tmp 1) 2⟩,
      ⟨some 22, .some 20 true, true, 3, .load 3 (.tmp 21)⟩,
      ⟨some 23, .some 20 true, true, 0, .fieldAddr 45 (.tmp 1) 0⟩,
      ⟨some 24, .some 20 true, true, 3, .load 3 (.tmp 23)⟩,
      ⟨some 25, .some 20 true, true, 3, .binOp .add 3 (.tmp 24) (.const (.int .i64 2)) 3⟩,
      ⟨some 26, .some 20 true, true, 4, .call { callee := .value (.func 47), args := #[.tmp 22, .tmp 25, .const (.int .i64 48)], argTypes := #[3, 3, 3] }⟩,
      ⟨some 27, .none, true, 4, .pick (.tmp 20) (.tmp 26) (.const (.bool false))⟩,
      ⟨some 2, .none, true, 4, .assign (.tmp 27)⟩])
  .ret)))
theorem t23 : FnT Try.prog 23 rc23 [.tmp 2] 1 := ⟨⟨Try.f23, _, Try.func23, rfl, by kernel_rfl, by kernel_rfl, by kernel_rfl, rfl, by decide⟩, by kernel_rfl⟩
/-- reeve/geo.Rows -/
def rc24 : RCode :=
  (.seq
    (.region [⟨some 1, .none, true, 0, .box 45 (.tmp 0)⟩,
      ⟨some 2, .none, true, 3, .assign (.const (.int .i64 0))⟩])
  (.keep [1]
  (.seq
    (.seq
      (.region [⟨some 3, .none, true, 45, .load 45 (.tmp 1)⟩,
        ⟨some 4, .none, true, 4, .call { callee := .value (.func 23), args := #[.tmp 3], argTypes := #[45] }⟩,
        ⟨some 5, .none, true, 4, .unOp .not 4 (.tmp 4)⟩])
    (.keep [1, 5]
    (.cond (.tmp 5)
      (.seq
        (.region [⟨some 2, .none, true, 3, .assign (.const (.int .i64 0))⟩])
      .ret)
      .skip)))
  (.seq
    (.region [⟨some 6, .none, true, 45, .load 45 (.tmp 1)⟩,
      ⟨some 7, .none, true, 3, .call { callee := .value (.func 28), args := #[.tmp 6], argTypes := #[45] }⟩,
      ⟨some 8, .none, true, 3, .binOp .quo 3 (.tmp 7) (.const (.int .i64 8)) 3⟩,
      ⟨some 9, .none, true, 3, .binOp .add 3 (.tmp 8) (.const (.int .i64 1)) 3⟩,
      ⟨some 2, .none, true, 3, .assign (.tmp 9)⟩])
  .ret))))
theorem t24 : FnT Try.prog 24 rc24 [.tmp 2] 1 := ⟨⟨Try.f24, _, Try.func24, rfl, by kernel_rfl, by kernel_rfl, by kernel_rfl, rfl, by decide⟩, by kernel_rfl⟩
/-- reeve/geo.Lock -/
def rc25 : RCode :=
  (.seq
    (.region [⟨some 1, .none, true, 0, .box 45 (.tmp 0)⟩,
      ⟨some 2, .none, true, 3, .assign (.const (.int .i64 0))⟩])
  (.keep [1]
  (.seq
    (.seq
      (.region [⟨some 3, .none, true, 45, .load 45 (.tmp 1)⟩,
        ⟨some 4, .none, true, 4, .call { callee := .value (.func 23), args := #[.tmp 3], argTypes := #[45] }⟩,
        ⟨some 5, .none, true, 4, .unOp .not 4 (.tmp 4)⟩])
    (.keep [5]
    (.cond (.tmp 5)
      (.seq
        (.region [⟨some 2, .none, true, 3, .assign (.const (.int .i64 0))⟩])
      .ret)
      .skip)))
  (.seq
    (.region [⟨some 2, .none, true, 3, .assign (.const (.int .i64 8))⟩])
  .ret))))
theorem t25 : FnT Try.prog 25 rc25 [.tmp 2] 1 := ⟨⟨Try.f25, _, Try.func25, rfl, by kernel_rfl, by kernel_rfl, by kernel_rfl, rfl, by decide⟩, by kernel_rfl⟩
/-- reeve/geo.Slot -/
def rc26 : RCode :=
  (.seq
    (.region [⟨some 2, .none, true, 0, .box 45 (.tmp 0)⟩,
      ⟨some 4, .none, true, 3, .assign (.const (.int .i64 0))⟩])
  (.keep [1, 2]
  (.seq
    (.seq
      (.region [⟨some 5, .none, true, 45, .load 45 (.tmp 2)⟩,
        ⟨some 6, .none, true, 4, .call { callee := .value (.func 23), args := #[.tmp 5], argTypes := #[45] }⟩,
        ⟨some 7, .none, true, 4, .unOp .not 4 (.tmp 6)⟩,
        ⟨some 8, .none, true, 4, .move (.tmp 7)⟩,
        ⟨some 9, .some 8 false, true, 3, .move (.tmp 1)⟩,
        ⟨some 10, .some 8 false, true, 0, .fieldAddr 45 (.tmp 2) 1⟩,
        ⟨some 11, .some 8 false, true, 3, .load 3 (.tmp 10)⟩,
        ⟨some 12, .some 8 false, true, 3, .binOp .sub 3 (.tmp 11) (.const (.int .i64 1)) 3⟩,
        ⟨some 13, .some 8 false, true, 4, .call { callee := .value (.func 47), args := #[.tmp 9, .const (.int .i64 0), .tmp 12], argTypes := #[3, 3, 3] }⟩,
        ⟨some 14, .some 8 false, true, 4, .unOp .not 4 (.tmp 13)⟩,
        ⟨some 15, .none, true, 4, .pick (.tmp 8) (.const (.bool true)) (.tmp 14)⟩])
    (.keep [1, 2, 15]
    (.cond (.tmp 15)
      (.seq
        (.region [⟨some 4, .none, true, 3, .assign (.const (.int .i64 0))⟩])
      .ret)
      .skip)))
  (.seq
    (.region [⟨some 16, .none, true, 45, .load 45 (.tmp 2)⟩,
      ⟨some 17, .none, true, 3, .call { callee := .value (.func 48), args := #[.tmp 16], argTypes := #[45] }⟩,
      ⟨some 18, .none, true, 3, .move (.tmp 1)⟩,
      ⟨some 19, .none, true, 3, .binOp .mul 3 (.const (.int .i64 2)) (.tmp 18) 3⟩,
      ⟨some 20, .none, true, 3, .binOp .add 3 (.tmp 17) (.tmp 19) 3⟩,
      ⟨some 4, .none, true, 3, .assign (.tmp 20)⟩])
  .ret))))
theorem t26 : FnT Try.prog 26 rc26 [.tmp 4] 2 := ⟨⟨Try.f26, _, Try.func26, rfl, by kernel_rfl, by kernel_rfl, by kernel_rfl, rfl, by decide⟩, by kernel_rfl⟩
/-- reeve/geo.Thing -/
def rc27 : RCode :=
  (.seq
    (.region [⟨some 2, .none, true, 0, .box 45 (.tmp 0)⟩,
      ⟨some 4, .none, true, 3, .assign (.const (.int .i64 0))⟩])
  (.keep [1, 2]
  (.seq
    (.seq
      (.region [⟨some 5, .none, true, 45, .load 45 (.tmp 2)⟩,
        ⟨some 6, .none, true, 4, .call { callee := .value (.func 23), args := #[.tmp 5], argTypes := #[45] }⟩,
        ⟨some 7, .none, true, 4, .unOp .not 4 (.tmp 6)⟩,
        ⟨some 8, .none, true, 4, .move (.tmp 7)⟩,
        ⟨some 9, .some 8 false, true, 3, .move (.tmp 1)⟩,
        ⟨some 10, .some 8 false, true, 0, .fieldAddr 45 (.tmp 2) 2⟩,
        ⟨some 11, .some 8 false, true, 3, .load 3 (.tmp 10)⟩,
        ⟨some 12, .some 8 false, true, 3, .binOp .sub 3 (.tmp 11) (.const (.int .i64 1)) 3⟩,
        ⟨some 13, .some 8 false, true, 4, .call { callee := .value (.func 47), args := #[.tmp 9, .const (.int .i64 0), .tmp 12], argTypes := #[3, 3, 3] }⟩,
        ⟨some 14, .some 8 false, true, 4, .unOp .not 4 (.tmp 13)⟩,
        ⟨some 15, .none, true, 4, .pick (.tmp 8) (.const (.bool true)) (.tmp 14)⟩])
    (.keep [1, 2, 15]
    (.cond (.tmp 15)
      (.seq
        (.region [⟨some 4, .none, true, 3, .assign (.const (.int .i64 0))⟩])
      .ret)
      .skip)))
  (.seq
    (.region [⟨some 16, .none, true, 45, .load 45 (.tmp 2)⟩,
      ⟨some 17, .none, true, 3, .call { callee := .value (.func 49), args := #[.tmp 16], argTypes := #[45] }⟩,
      ⟨some 18, .none, true, 3, .move (.tmp 1)⟩,
      ⟨some 19, .none, true, 3, .binOp .mul 3 (.const (.int .i64 8)) (.tmp 18) 3⟩,
      ⟨some 20, .none, true, 3, .binOp .add 3 (.tmp 17) (.tmp 19) 3⟩,
      ⟨some 4, .none, true, 3, .assign (.tmp 20)⟩])
  .ret))))
theorem t27 : FnT Try.prog 27 rc27 [.tmp 4] 2 := ⟨⟨Try.f27, _, Try.func27, rfl, by kernel_rfl, by kernel_rfl, by kernel_rfl, rfl, by decide⟩, by kernel_rfl⟩
/-- reeve/geo.Copy -/
def rc28 : RCode :=
  (.seq
    (.region [⟨some 1, .none, true, 0, .box 45 (.tmp 0)⟩,
      ⟨some 2, .none, true, 3, .assign (.const (.int .i64 0))⟩])
  (.keep [1]
  (.seq
    (.seq
      (.region [⟨some 3, .none, true, 45, .load 45 (.tmp 1)⟩,
        ⟨some 4, .none, true, 4, .call { callee := .value (.func 23), args := #[.tmp 3], argTypes := #[45] }⟩,
        ⟨some 5, .none, true, 4, .unOp .not 4 (.tmp 4)⟩])
    (.keep [1, 5]
    (.cond (.tmp 5)
      (.seq
        (.region [⟨some 2, .none, true, 3, .assign (.const (.int .i64 0))⟩])
      .ret)
      .skip)))
  (.seq
    (.region [⟨some 6, .none, false, 45, .load 45 (.tmp 1)⟩,
      ⟨some 7, .none, false, 3, .call { callee := .value (.func 49), args := #[.tmp 6], argTypes := #[45] }⟩,
      ⟨some 8, .none, false, 0, .fieldAddr 45 (.tmp 1) 2⟩,
      ⟨some 9, .none, false, 3, .load 3 (.tmp 8)⟩,
      ⟨some 10, .none, false, 3, .binOp .mul 3 (.const (.int .i64 8)) (.tmp 9) 3⟩,
      ⟨some 11, .none, true, 3, .binOp .add 3 (.tmp 7) (.tmp 10) 3⟩,
      ⟨some 2, .none, true, 3, .assign (.tmp 11)⟩])
  .ret))))
theorem t28 : FnT Try.prog 28 rc28 [.tmp 2] 1 := ⟨⟨Try.f28, _, Try.func28, rfl, by kernel_rfl, by kernel_rfl, by kernel_rfl, rfl, by decide⟩, by kernel_rfl⟩
/-- reeve/geo.Root -/
def rc29 : RCode :=
  (.seq
    (.region [⟨some 2, .none, true, 0, .box 45 (.tmp 0)⟩,
      ⟨some 4, .none, true, 3, .assign (.const (.int .i64 0))⟩])
  (.keep [1, 2]
  (.seq
    (.seq
      (.region [⟨some 5, .none, true, 45, .load 45 (.tmp 2)⟩,
        ⟨some 6, .none, true, 4, .call { callee := .value (.func 23), args := #[.tmp 5], argTypes := #[45] }⟩,
        ⟨some 7, .none, true, 4, .unOp .not 4 (.tmp 6)⟩,
        ⟨some 8, .none, true, 4, .move (.tmp 7)⟩,
        ⟨some 9, .some 8 false, true, 3, .move (.tmp 1)⟩,
        ⟨some 10, .some 8 false, true, 0, .fieldAddr 45 (.tmp 2) 0⟩,
        ⟨some 11, .some 8 false, true, 3, .load 3 (.tmp 10)⟩,
        ⟨some 12, .some 8 false, true, 3, .binOp .sub 3 (.tmp 11) (.const (.int .i64 1)) 3⟩,
        ⟨some 13, .some 8 false, true, 4, .call { callee := .value (.func 47), args := #[.tmp 9, .const (.int .i64 0), .tmp 12], argTypes := #[3, 3, 3] }⟩,
        ⟨some 14, .some 8 false, true, 4, .unOp .not 4 (.tmp 13)⟩,
        ⟨some 15, .none, true, 4, .pick (.tmp 8) (.const (.bool true)) (.tmp 14)⟩])
    (.keep [1, 15]
    (.cond (.tmp 15)
      (.seq
        (.region [⟨some 4, .none, true, 3, .assign (.const (.int .i64 0))⟩])
      .ret)
      .skip)))
  (.seq
    (.region [⟨some 16, .none, true, 3, .move (.tmp 1)⟩,
      ⟨some 17, .none, true, 3, .binOp .mul 3 (.const (.int .i64 8)) (.tmp 16) 3⟩,
      ⟨some 4, .none, true, 3, .assign (.tmp 17)⟩])
  .ret))))
theorem t29 : FnT Try.prog 29 rc29 [.tmp 4] 2 := ⟨⟨Try.f29, _, Try.func29, rfl, by kernel_rfl, by kernel_rfl, by kernel_rfl, rfl, by decide⟩, by kernel_rfl⟩
/-- reeve/geo.Plain -/
def rc30 : RCode :=
  (.seq
    (.region [⟨some 0, .none, true, 0, .alloc 45⟩])
  (.keep [0]
  (.seq
    (.region [⟨some 1, .none, true, 45, .build 45 #[(0, .const (.int .i64 2)), (1, .const (.int .i64 32)), (2, .const (.int .i64 16))]⟩,
      ⟨none, .none, true, 0, .store 45 (.tmp 0) (.tmp 1)⟩])
  .ret)))
theorem t30 : FnT Try.prog 30 rc30 [.cell 0 45] 0 := ⟨⟨Try.f30, _, Try.func30, rfl, by kernel_rfl, by kernel_rfl, by kernel_rfl, rfl, by decide⟩, by kernel_rfl⟩
/-- reeve/reevelaw5.geoOf -/
def rc31 : RCode :=
  (.seq
    (.region [⟨some 1, .none, true, 0, .box 45 (.tmp 0)⟩,
      ⟨some 2, .none, true, 0, .alloc 53⟩])
  (.keep [1, 2]
  (.seq
    (.region [⟨some 3, .none, true, 0, .fieldAddr 45 (.tmp 1) 0⟩,
      ⟨some 4, .none, true, 3, .load 3 (.tmp 3)⟩,
      ⟨some 5, .none, true, 0, .fieldAddr 45 (.tmp 1) 1⟩,
      ⟨some 6, .none, true, 3, .load 3 (.tmp 5)⟩,
      ⟨some 7, .none, true, 0, .fieldAddr 45 (.tmp 1) 2⟩,
      ⟨some 8, .none, true, 3, .load 3 (.tmp 7)⟩,
      ⟨some 9, .none, true, 53, .build 53 #[(0, .tmp 4), (1, .tmp 6), (2, .tmp 8)]⟩,
      ⟨none, .none, true, 0, .store 53 (.tmp 2) (.tmp 9)⟩])
  .ret)))
theorem t31 : FnT Try.prog 31 rc31 [.cell 2 53] 1 := ⟨⟨Try.f31, _, Try.func31, rfl, by kernel_rfl, by kernel_rfl, by kernel_rfl, rfl, by decide⟩, by kernel_rfl⟩
/-- reeve/reeveref1.Desc -/
def rc32 : RCode :=
  (.seq
    (.region [⟨some 2, .none, true, 0, .box 53 (.tmp 0)⟩,
      ⟨some 4, .none, true, 3, .assign (.const (.int .i64 0))⟩,
      ⟨some 5, .none, true, 3, .assign (.const (.int .i64 0))⟩])
  (.keep [1, 2]
  (.seq
    (.seq
      (.region [⟨some 6, .none, true, 53, .load 53 (.tmp 2)⟩,
        ⟨some 7, .none, true, 4, .call { callee := .value (.func 33), args := #[.tmp 6], argTypes := #[53] }⟩,
        ⟨some 8, .none, true, 4, .unOp .not 4 (.tmp 7)⟩,
        ⟨some 9, .none, true, 4, .move (.tmp 8)⟩,
        ⟨some 10, .some 9 false, true, 3, .move (.tmp 1)⟩,
        ⟨some 11, .some 9 false, true, 4, .binOp .lss 3 (.tmp 10) (.const (.int .i64 0)) 3⟩,
        ⟨some 12, .none, true, 4, .pick (.tmp 9) (.const (.bool true)) (.tmp 11)⟩,
        ⟨some 13, .none, true, 4, .move (.tmp 12)⟩,
        ⟨some 14, .some 13 false, true, 3, .move (.tmp 1)⟩,
        ⟨some 15, .some 13 false, true, 0, .fieldAddr 53 (.tmp 2) 0⟩,
        ⟨some 16, .some 13 false, true, 3, .load 3 (.tmp 15)⟩,
        ⟨some 17, .some 13 false, true, 4, .binOp .geq 3 (.tmp 14) (.tmp 16) 3⟩,
        ⟨some 18, .none, true, 4, .pick (.tmp 13) (.const (.bool true)) (.tmp 17)⟩])
    (.keep [1, 18]
    (.cond (.tmp 18)
      (.seq
        (.region [⟨some 4, .none, true, 3, .assign (.const (.int .i64 0))⟩,
          ⟨some 5, .none, true, 3, .assign (.const (.int .i64 0))⟩])
      .ret)
      .skip)))
  (.seq
    (.region [⟨some 19, .none, true, 3, .move (.tmp 1)⟩,
      ⟨some 20, .none, true, 3, .call { callee := .value (.func 50), args := #[], argTypes := #[] }⟩,
      ⟨some 21, .none, true, 3, .binOp .mul 3 (.tmp 19) (.tmp 20) 3⟩,
      ⟨some 22, .none, true, 3, .binOp .add 3 (.const (.int .i64 16)) (.tmp 21) 3⟩,
      ⟨some 23, .none, true, 3, .call { callee := .value (.func 50), args := #[], argTypes := #[] }⟩,
      ⟨some 4, .none, true, 3, .assign (.tmp 22)⟩,
      ⟨some 5, .none, true, 3, .assign (.tmp 23)⟩])
  .ret))))
theorem t32 : FnT Try.prog 32 rc32 [.tmp 4, .tmp 5] 2 := ⟨⟨Try.f32, _, Try.func32, rfl, by kernel_rfl, by kernel_rfl, by kernel_rfl, rfl, by decide⟩, by kernel_rfl⟩
/-- reeve/reeveref1.GoodGeo -/
def rc33 : RCode :=
  (.seq
    (.region [⟨some 1, .none, true, 0, .box 53 (.tmp 0)⟩,
      ⟨some 2, .none, true, 4, .assign (.const (.bool false))⟩])
  (.keep [1]
  (.seq
    (.region [⟨some 3, .none, true, 0, .fieldAddr 53 (.tmp 1) 0⟩,
      ⟨some 4, .none, true, 3, .load 3 (.tmp 3)⟩,
      ⟨some 5, .none, true, 4, .binOp .geq 3 (.tmp 4) (.const (.int .i64 1)) 3⟩,
      ⟨some 6, .none, true, 4, .move (.tmp 5)⟩,
      ⟨some 7, .some 6 true, true, 0, .fieldAddr 53 (.tmp 1) 0⟩,
      ⟨some 8, .some 6 true, true, 3, .load 3 (.tmp 7)⟩,
      ⟨some 9, .some 6 true, true, 4, .binOp .leq 3 (.tmp 8) (.const (.int .i64 4)) 3⟩,
      ⟨some 10, .none, true, 4, .pick (.tmp 6) (.tmp 9) (.const (.bool false))⟩,
      ⟨some 11, .none, true, 4, .move (.tmp 10)⟩,
      ⟨some 12, .some 11 true, true, 0, .fieldAddr 53 (.tmp 1) 1⟩,
      ⟨some 13, .some 11 true, true, 3, .load 3 (.tmp 12)⟩,
      ⟨some 14, .some 11 true, true, 0, .fieldAddr 53 (.tmp 1) 0⟩,
      ⟨some 15, .some 11 true, true, 3, .load 3 (.tmp 14)⟩,
      ⟨some 16, .some 11 true, true, 3, .binOp .mul 3 (.const (.int .i64 8)) (.tmp 15) 3⟩,
      ⟨some 17, .some 11 true, true, 4, .binOp .geq 3 (.tmp 13) (.tmp 16) 3⟩,
      ⟨some 18, .none, true, 4, .pick (.tmp 11) (.tmp 17) (.const (.bool false))⟩,
      ⟨some 19, .none, true, 4, .move (.tmp 18)⟩,
      ⟨some 20, .some 19 true, true, 0, .fieldAddr 53 (.tmp 1) 1⟩,
      ⟨some 21, .some 19 true, true, 3, .load 3 (.tmp 20)⟩,
      ⟨some 22, .some 19 true, true, 4, .binOp .leq 3 (.tmp 21) (.const (.int .i64 96)) 3⟩,
      ⟨some 23, .none, true, 4, .pick (.tmp 19) (.tmp 22) (.const (.bool false))⟩,
      ⟨some 24, .none, true, 4, .move (.tmp 23)⟩,
      ⟨some 25, .some 24 true, true, 0, .fieldAddr 53 (.tmp 1) 1⟩,
      ⟨some 26, .some 24 true, true, 3, .load 3 (.tmp 25)⟩,
      ⟨some 27, .some 24 true, true, 3, .binOp .rem 3 (.tmp 26) (.const (.int .i64 8)) 3⟩,
      ⟨some 28, .some 24 true, true, 4, .binOp .eql 3 (.tmp 27) (.const (.int .i64 0)) 3⟩,
      ⟨some 29, .none, true, 4, .pick (.tmp 24) (.tmp 28) (.const (.bool false))⟩,
      ⟨some 30, .none, true, 4, .move (.tmp 29)⟩,
      ⟨some 31, .some 30 true, true, 0, .fieldAddr 53 (.tmp 1) 2⟩,
      ⟨some 32, .some 30 true, true, 3, .load 3 (.tmp 31)⟩,
      ⟨some 33, .some 30 true, true, 0, .fieldAddr 53 (.tmp 1) 0⟩,
      ⟨some 34, .some 30 true, true, 3, .load 3 (.tmp 33)⟩,
      ⟨some 35, .some 30 true, true, 3, .binOp .add 3 (.tmp 34) (.const (.int .i64 2)) 3⟩,
      ⟨some 36, .some 30 true, true, 4, .binOp .geq 3 (.tmp 32) (.tmp 35) 3⟩,
      ⟨some 37, .none, true, 4, .pick (.tmp 30) (.tmp 36) (.const (.bool false))⟩,
      ⟨some 38, .none, true, 4, .move (.tmp 37)⟩,
      ⟨some 39, .some 38 true, true, 0, .fieldAddr 53 (.tmp 1) 2⟩,
      ⟨some 40, .some 38 true, true, 3, .load 3 (.tmp 39)⟩,
      ⟨some 41, .some 38 true, true, 4, .binOp .leq 3 (.tmp 40) (.const (.int .i64 48)) 3⟩,
      ⟨some 42, .none, true, 4, .pick (.tmp 38) (.tmp 41) (.const (.bool false))⟩,
      ⟨some 2, .none, true, 4, .assign (.tmp 42)⟩])
  .ret)))
theorem t33 : FnT Try.prog 33 rc33 [.tmp 2] 1 := ⟨⟨Try.f33, _, Try.func33, rfl, by kernel_rfl, by kernel_rfl, by kernel_rfl, rfl, by decide⟩, by kernel_rfl⟩
/-- reeve/reeveref1.Rows -/
def rc34 : RCode :=
  (.seq
    (.region [⟨some 1, .none, true, 0, .box 53 (.tmp 0)⟩,
      ⟨some 2, .none, true, 3, .assign (.const (.int .i64 0))⟩])
  (.keep [1]
  (.seq
    (.seq
      (.region [⟨some 3, .none, true, 53, .load 53 (.tmp 1)⟩,
        ⟨some 4, .none, true, 4, .call { callee := .value (.func 33), args := #[.tmp 3], argTypes := #[53] }⟩,
        ⟨some 5, .none, true, 4, .unOp .not 4 (.tmp 4)⟩])
    (.keep [1, 5]
    (.cond (.tmp 5)
      (.seq
        (.region [⟨some 2, .none, true, 3, .assign (.const (.int .i64 0))⟩])
      .ret)
      .skip)))
  (.seq
    (.region [⟨some 6, .none, true, 53, .load 53 (.tmp 1)⟩,
      ⟨some 7, .none, true, 3, .call { callee := .value (.func 37), args := #[.tmp 6], argTypes := #[53] }⟩,
      ⟨some 8, .none, true, 3, .binOp .quo 3 (.tmp 7) (.const (.int .i64 8)) 3⟩,
      ⟨some 9, .none, true, 3, .binOp .add 3 (.tmp 8) (.const (.int .i64 1)) 3⟩,
      ⟨some 2, .none, true, 3, .assign (.tmp 9)⟩])
  .ret))))
theorem t34 : FnT Try.prog 34 rc34 [.tmp 2] 1 := ⟨⟨Try.f34, _, Try.func34, rfl, by kernel_rfl, by kernel_rfl, by kernel_rfl, rfl, by decide⟩, by kernel_rfl⟩
/-- reeve/reeveref1.Slot -/
def rc35 : RCode :=
  (.seq
    (.region [⟨some 2, .none, true, 0, .box 53 (.tmp 0)⟩,
      ⟨some 4, .none, true, 3, .assign (.const (.int .i64 0))⟩])
  (.keep [1, 2]
  (.seq
    (.seq
      (.region [⟨some 5, .none, true, 53, .load 53 (.tmp 2)⟩,
        ⟨some 6, .none, true, 4, .call { callee := .value (.func 33), args := #[.tmp 5], argTypes := #[53] }⟩,
        ⟨some 7, .none, true, 4, .unOp .not 4 (.tmp 6)⟩,
        ⟨some 8, .none, true, 4, .move (.tmp 7)⟩,
        ⟨some 9, .some 8 false, true, 3, .move (.tmp 1)⟩,
        ⟨some 10, .some 8 false, true, 4, .binOp .lss 3 (.tmp 9) (.const (.int .i64 0)) 3⟩,
        ⟨some 11, .none, true, 4, .pick (.tmp 8) (.const (.bool true)) (.tmp 10)⟩,
        ⟨some 12, .none, true, 4, .move (.tmp 11)⟩,
        ⟨some 13, .some 12 false, true, 3, .move (.tmp 1)⟩,
        ⟨some 14, .some 12 false, true, 0, .fieldAddr 53 (.tmp 2) 1⟩,
        ⟨some 15, .some 12 false, true, 3, .load 3 (.tmp 14)⟩,
        ⟨some 16, .some 12 false, true, 4, .binOp .geq 3 (.tmp 13) (.tmp 15) 3⟩,
        ⟨some 17, .none, true, 4, .pick (.tmp 12) (.const (.bool true)) (.tmp 16)⟩])
    (.keep [1, 2, 17]
    (.cond (.tmp 17)
      (.seq
        (.region [⟨some 4, .none, true, 3, .assign (.const (.int .i64 0))⟩])
      .ret)
      .skip)))
  (.seq
    (.region [⟨some 18, .none, true, 53, .load 53 (.tmp 2)⟩,
      ⟨some 19, .none, true, 3, .call { callee := .value (.func 51), args := #[.tmp 18], argTypes := #[53] }⟩,
      ⟨some 20, .none, true, 3, .move (.tmp 1)⟩,
      ⟨some 21, .none, true, 3, .binOp .mul 3 (.const (.int .i64 2)) (.tmp 20) 3⟩,
      ⟨some 22, .none, true, 3, .binOp .add 3 (.tmp 19) (.tmp 21) 3⟩,
      ⟨some 4, .none, true, 3, .assign (.tmp 22)⟩])
  .ret))))
theorem t35 : FnT Try.prog 35 rc35 [.tmp 4] 2 := ⟨⟨Try.f35, _, Try.func35, rfl, by kernel_rfl, by kernel_rfl, by kernel_rfl, rfl, by decide⟩, by kernel_rfl⟩
/-- reeve/reeveref1.Thing -/
def rc36 : RCode :=
  (.seq
    (.region [⟨some 2, .none, true, 0, .box 53 (.tmp 0)⟩,
      ⟨some 4, .none, true, 3, .assign (.const (.int .i64 0))⟩])
  (.keep [1, 2]
  (.seq
    (.seq
      (.region [⟨some 5, .none, true, 53, .load 53 (.tmp 2)⟩,
        ⟨some 6, .none, true, 4, .call { callee := .value (.func 33), args := #[.tmp 5], argTypes := #[53] }⟩,
        ⟨some 7, .none, true, 4, .unOp .not 4 (.tmp 6)⟩,
        ⟨some 8, .none, true, 4, .move (.tmp 7)⟩,
        ⟨some 9, .some 8 false, true, 3, .move (.tmp 1)⟩,
        ⟨some 10, .some 8 false, true, 4, .binOp .lss 3 (.tmp 9) (.const (.int .i64 0)) 3⟩,
        ⟨some 11, .none, true, 4, .pick (.tmp 8) (.const (.bool true)) (.tmp 10)⟩,
        ⟨some 12, .none, true, 4, .move (.tmp 11)⟩,
        ⟨some 13, .some 12 false, true, 3, .move (.tmp 1)⟩,
        ⟨some 14, .some 12 false, true, 0, .fieldAddr 53 (.tmp 2) 2⟩,
        ⟨some 15, .some 12 false, true, 3, .load 3 (.tmp 14)⟩,
        ⟨some 16, .some 12 false, true, 4, .binOp .geq 3 (.tmp 13) (.tmp 15) 3⟩,
        ⟨some 17, .none, true, 4, .pick (.tmp 12) (.const (.bool true)) (.tmp 16)⟩])
    (.keep [1, 2, 17]
    (.cond (.tmp 17)
      (.seq
        (.region [⟨some 4, .none, true, 3, .assign (.const (.int .i64 0))⟩])
      .ret)
      .skip)))
  (.seq
    (.region [⟨some 18, .none, false, 53, .load 53 (.tmp 2)⟩,
      ⟨some 19, .none, false, 3, .call { callee := .value (.func 51), args := #[.tmp 18], argTypes := #[53] }⟩,
      ⟨some 20, .none, false, 0, .fieldAddr 53 (.tmp 2) 1⟩,
      ⟨some 21, .none, false, 3, .load 3 (.tmp 20)⟩,
      ⟨some 22, .none, false, 3, .binOp .mul 3 (.const (.int .i64 2)) (.tmp 21) 3⟩,
      ⟨some 23, .none, true, 3, .binOp .add 3 (.tmp 19) (.tmp 22) 3⟩,
      ⟨some 24, .none, false, 3, .move (.tmp 1)⟩,
      ⟨some 25, .none, false, 3, .binOp .mul 3 (.const (.int .i64 8)) (.tmp 24) 3⟩,
      ⟨some 26, .none, true, 3, .binOp .add 3 (.tmp 23) (.tmp 25) 3⟩,
      ⟨some 4, .none, true, 3, .assign (.tmp 26)⟩])
  .ret))))
theorem t36 : FnT Try.prog 36 rc36 [.tmp 4] 2 := ⟨⟨Try.f36, _, Try.func36, rfl, by kernel_rfl, by kernel_rfl, by kernel_rfl, rfl, by decide⟩, by kernel_rfl⟩
/-- reeve/reeveref1.Copy -/
def rc37 : RCode :=
  (.seq
    (.region [⟨some 1, .none, true, 0, .box 53 (.tmp 0)⟩,
      ⟨some 2, .none, true, 3, .assign (.const (.int .i64 0))⟩])
  (.keep [1]
  (.seq
    (.seq
      (.region [⟨some 3, .none, true, 53, .load 53 (.tmp 1)⟩,
        ⟨some 4, .none, true, 4, .call { callee := .value (.func 33), args := #[.tmp 3], argTypes := #[53] }⟩,
        ⟨some 5, .none, true, 4, .unOp .not 4 (.tmp 4)⟩])
    (.keep [1, 5]
    (.cond (.tmp 5)
      (.seq
        (.region [⟨some 2, .none, true, 3, .assign (.const (.int .i64 0))⟩])
      .ret)
      .skip)))
  (.seq
    (.region [⟨some 6, .none, false, 53, .load 53 (.tmp 1)⟩,
      ⟨some 7, .none, false, 3, .call { callee := .value (.func 51), args := #[.tmp 6], argTypes := #[53] }⟩,
      ⟨some 8, .none, false, 0, .fieldAddr 53 (.tmp 1) 1⟩,
      ⟨some 9, .none, false, 3, .load 3 (.tmp 8)⟩,
      ⟨some 10, .none, false, 3, .binOp .mul 3 (.const (.int .i64 2)) (.tmp 9) 3⟩,
      ⟨some 11, .none, false, 3, .binOp .add 3 (.tmp 7) (.tmp 10) 3⟩,
      ⟨some 12, .none, false, 0, .fieldAddr 53 (.tmp 1) 2⟩,
      ⟨some 13, .none, false, 3, .load 3 (.tmp 12)⟩,
      ⟨some 14, .none, false, 3, .binOp .mul 3 (.const (.int .i64 8)) (.tmp 13) 3⟩,
      ⟨some 15, .none, true, 3, .binOp .add 3 (.tmp 11) (.tmp 14) 3⟩,
      ⟨some 2, .none, true, 3, .assign (.tmp 15)⟩])
  .ret))))
theorem t37 : FnT Try.prog 37 rc37 [.tmp 2] 1 := ⟨⟨Try.f37, _, Try.func37, rfl, by kernel_rfl, by kernel_rfl, by kernel_rfl, rfl, by decide⟩, by kernel_rfl⟩
/-- reeve/reevelaw5.take -/
def rc38l0 : RCode :=
  (.seq
    (.seq
      (.region [⟨some 23, .none, true, 3, .move (.tmp 7)⟩,
        ⟨some 24, .none, true, 3, .move (.tmp 1)⟩,
        ⟨some 25, .none, true, 3, .move (.tmp 2)⟩,
        ⟨some 26, .none, true, 3, .binOp .add 3 (.tmp 24) (.tmp 25) 3⟩,
        ⟨some 27, .none, true, 4, .binOp .lss 3 (.tmp 23) (.tmp 26) 3⟩])
    (.keep [0, 1, 2, 7, 27]
    (.cond (.tmp 27)
      .skip
      (.exit 0))))
  (.seq
    (.block 1
      (.seq
        (.seq
          (.region [⟨some 30, .none, true, 60, .move (.tmp 0)⟩,
            ⟨some 31, .none, true, 3, .move (.tmp 7)⟩,
            ⟨some 32, .none, true, 0, .indexAddr 60 (.tmp 30) (.tmp 31)⟩,
            ⟨some 33, .none, true, 4, .load 4 (.tmp 32)⟩])
        (.keep [0, 1, 2, 7, 33]
        (.cond (.tmp 33)
          (.seq
            (.region [⟨some 6, .none, true, 4, .assign (.const (.bool false))⟩])
          .ret)
          .skip)))
      (.region [⟨some 34, .none, true, 60, .move (.tmp 0)⟩,
        ⟨some 35, .none, true, 3, .move (.tmp 7)⟩,
        ⟨some 36, .none, true, 0, .indexAddr 60 (.tmp 34) (.tmp 35)⟩,
        ⟨none, .none, true, 0, .store 4 (.tmp 36) (.const (.bool true))⟩])))
  (.keep [0, 1, 2, 7]
  (.region [⟨some 28, .none, true, 3, .move (.tmp 7)⟩,
    ⟨some 29, .none, true, 3, .binOp .add 3 (.tmp 28) (.const (.int .i64 1)) 3⟩,
    ⟨some 7, .none, true, 3, .assign (.tmp 29)⟩]))))
def rc38 : RCode :=
  (.seq
    (.region [⟨some 6, .none, true, 4, .assign (.const (.bool false))⟩])
  (.keep [0, 1, 2]
  (.seq
    (.seq
      (.region [⟨some 8, .none, true, 3, .move (.tmp 1)⟩,
        ⟨some 9, .none, true, 4, .binOp .lss 3 (.tmp 8) (.const (.int .i64 0)) 3⟩,
        ⟨some 10, .none, true, 4, .move (.tmp 9)⟩,
        ⟨some 11, .some 10 false, true, 3, .move (.tmp 2)⟩,
        ⟨some 12, .some 10 false, true, 4, .binOp .lss 3 (.tmp 11) (.const (.int .i64 0)) 3⟩,
        ⟨some 13, .none, true, 4, .pick (.tmp 10) (.const (.bool true)) (.tmp 12)⟩,
        ⟨some 14, .none, true, 4, .move (.tmp 13)⟩,
        ⟨some 15, .some 14 false, true, 3, .move (.tmp 1)⟩,
        ⟨some 16, .some 14 false, true, 3, .move (.tmp 2)⟩,
        ⟨some 17, .some 14 false, true, 3, .binOp .add 3 (.tmp 15) (.tmp 16) 3⟩,
        ⟨some 18, .some 14 false, true, 60, .move (.tmp 0)⟩,
        ⟨some 19, .some 14 false, true, 3, .call { callee := .builtin .len, args := #[.tmp 18], argTypes := #[60] }⟩,
        ⟨some 20, .some 14 false, true, 4, .binOp .gtr 3 (.tmp 17) (.tmp 19) 3⟩,
        ⟨some 21, .none, true, 4, .pick (.tmp 14) (.const (.bool true)) (.tmp 20)⟩])
    (.keep [0, 1, 2, 21]
    (.cond (.tmp 21)
      (.seq
        (.region [⟨some 6, .none, true, 4, .assign (.const (.bool false))⟩])
      .ret)
      .skip)))
  (.seq
    (.seq
      (.region [⟨some 22, .none, true, 3, .move (.tmp 1)⟩,
        ⟨some 7, .none, true, 3, .assign (.tmp 22)⟩])
    (.keep [0, 1, 2, 7]
    (.block 0
      (.loop [0, 1, 2, 7] rc38l0))))
  (.seq
    (.region [⟨some 6, .none, true, 4, .assign (.const (.bool true))⟩])
  .ret)))))
theorem t38 : FnT Try.prog 38 rc38 [.tmp 6] 3 := ⟨⟨Try.f38, _, Try.func38, rfl, by kernel_rfl, by kernel_rfl, by kernel_rfl, rfl, by decide⟩, by kernel_rfl⟩
/-- reeve/reevelaw4.pairs -/
def rc39l0 : RCode :=
  (.seq
    (.seq
      (.region [⟨some 5, .none, true, 3, .move (.tmp 4)⟩,
        ⟨some 6, .none, true, 22, .move (.tmp 0)⟩,
        ⟨some 7, .none, true, 3, .call { callee := .builtin .len, args := #[.tmp 6], argTypes := #[22] }⟩,
        ⟨some 8, .none, true, 4, .binOp .lss 3 (.tmp 5) (.tmp 7) 3⟩])
    (.keep [0, 3, 4, 8]
    (.cond (.tmp 8)
      .skip
      (.exit 0))))
  (.seq
    (.block 1
      (.region [⟨some 11, .none, false, 63, .move (.tmp 3)⟩,
        ⟨some 12, .none, false, 22, .move (.tmp 0)⟩,
        ⟨some 13, .none, false, 3, .move (.tmp 4)⟩,
        ⟨some 14, .none, false, 0, .indexAddr 22 (.tmp 12) (.tmp 13)⟩,
        ⟨some 15, .none, false, 0, .fieldAddr 34 (.tmp 14) 0⟩,
        ⟨some 16, .none, false, 3, .load 3 (.tmp 15)⟩,
        ⟨some 17, .none, false, 22, .move (.tmp 0)⟩,
        ⟨some 18, .none, false, 3, .move (.tmp 4)⟩,
        ⟨some 19, .none, false, 0, .indexAddr 22 (.tmp 17) (.tmp 18)⟩,
        ⟨some 20, .none, false, 0, .fieldAddr 34 (.tmp 19) 1⟩,
        ⟨some 21, .none, false, 3, .load 3 (.tmp 20)⟩,
        ⟨some 22, .none, true, 73, .build 73 #[(0, .tmp 16), (1, .tmp 21)]⟩,
        ⟨some 23, .none, true, 63, .buildSlice 63 1 #[(0, .tmp 22)]⟩,
        ⟨some 24, .none, true, 63, .call { callee := .builtin .append, args := #[.tmp 11, .tmp 23], argTypes := #[63, 63] }⟩,
        ⟨some 3, .none, true, 63, .assign (.tmp 24)⟩]))
  (.keep [0, 3, 4]
  (.region [⟨some 9, .none, true, 3, .move (.tmp 4)⟩,
    ⟨some 10, .none, true, 3, .binOp .add 3 (.tmp 9) (.const (.int .i64 1)) 3⟩,
    ⟨some 4, .none, true, 3, .assign (.tmp 10)⟩]))))
def rc39 : RCode :=
  (.seq
    (.region [⟨some 2, .none, true, 63, .assign (.const (.slice none 0 0))⟩])
  (.keep [0]
  (.seq
    (.region [⟨some 3, .none, true, 63, .assign (.const (.slice none 0 0))⟩])
  (.keep [0, 3]
  (.seq
    (.seq
      (.region [⟨some 4, .none, true, 3, .assign (.const (.int .i64 0))⟩])
    (.keep [0, 3, 4]
    (.block 0
      (.loop [0, 3, 4] rc39l0))))
  (.seq
    (.region [⟨some 25, .none, true, 63, .move (.tmp 3)⟩,
      ⟨some 2, .none, true, 63, .assign (.tmp 25)⟩])
  .ret))))))
theorem t39 : FnT Try.prog 39 rc39 [.tmp 2] 1 := ⟨⟨Try.f39, _, Try.func39, rfl, by kernel_rfl, by kernel_rfl, by kernel_rfl, rfl, by decide⟩, by kernel_rfl⟩
/-- reeve/reeveref1.PutFields -/
def rc40l0 : RCode :=
  (.seq
    (.seq
      (.region [⟨some 18, .none, true, 3, .move (.tmp 7)⟩,
        ⟨some 19, .none, true, 63, .move (.tmp 0)⟩,
        ⟨some 20, .none, true, 3, .call { callee := .builtin .len, args := #[.tmp 19], argTypes := #[63] }⟩,
        ⟨some 21, .none, true, 4, .binOp .lss 3 (.tmp 18) (.tmp 20) 3⟩])
    (.keep [0, 1, 6, 7, 21]
    (.cond (.tmp 21)
      .skip
      (.exit 0))))
  (.seq
    (.block 1
      (.seq
        (.seq
          (.region [⟨some 24, .none, true, 63, .move (.tmp 0)⟩,
            ⟨some 25, .none, true, 3, .move (.tmp 7)⟩,
            ⟨some 26, .none, true, 0, .indexAddr 63 (.tmp 24) (.tmp 25)⟩,
            ⟨some 27, .none, true, 0, .indexAddr 73 (.tmp 26) (.const (.int .i64 1))⟩,
            ⟨some 28, .none, true, 3, .load 3 (.tmp 27)⟩,
            ⟨some 29, .none, true, 4, .binOp .lss 3 (.tmp 28) (.const (.int .i64 64)) 3⟩,
            ⟨some 30, .none, true, 4, .move (.tmp 29)⟩,
            ⟨some 31, .some 30 true, false, 26, .move (.tmp 1)⟩,
            ⟨some 32, .some 30 true, false, 3, .move (.tmp 7)⟩,
            ⟨some 33, .some 30 true, false, 0, .indexAddr 26 (.tmp 31) (.tmp 32)⟩,
            ⟨some 34, .some 30 true, false, 23, .load 23 (.tmp 33)⟩,
            ⟨some 35, .some 30 true, false, 63, .move (.tmp 0)⟩,
            ⟨some 36, .some 30 true, false, 3, .move (.tmp 7)⟩,
            ⟨some 37, .some 30 true, false, 0, .indexAddr 63 (.tmp 35) (.tmp 36)⟩,
            ⟨some 38, .some 30 true, false, 0, .indexAddr 73 (.tmp 37) (.const (.int .i64 1))⟩,
            ⟨some 39, .some 30 true, false, 3, .load 3 (.tmp 38)⟩,
            ⟨some 40, .some 30 true, false, 23, .call { callee := .value (.func 52), args := #[.tmp 39], argTypes := #[3] }⟩,
            ⟨some 41, .some 30 true, true, 4, .binOp .geq 23 (.tmp 34) (.tmp 40) 23⟩,
            ⟨some 42, .none, true, 4, .pick (.tmp 30) (.tmp 41) (.const (.bool false))⟩])
        (.keep [0, 1, 6, 7, 42]
        (.cond (.tmp 42)
          (.seq
            (.region [⟨some 4, .none, true, 23, .assign (.const (.int .u64 0))⟩,
              ⟨some 5, .none, true, 4, .assign (.const (.bool false))⟩])
          .ret)
          .skip)))
      (.region [⟨some 43, .none, false, 23, .move (.tmp 6)⟩,
        ⟨some 44, .none, false, 26, .move (.tmp 1)⟩,
        ⟨some 45, .none, false, 3, .move (.tmp 7)⟩,
        ⟨some 46, .none, false, 0, .indexAddr 26 (.tmp 44) (.tmp 45)⟩,
        ⟨some 47, .none, false, 23, .load 23 (.tmp 46)⟩,
        ⟨some 48, .none, false, 63, .move (.tmp 0)⟩,
        ⟨some 49, .none, false, 3, .move (.tmp 7)⟩,
        ⟨some 50, .none, false, 0, .indexAddr 63 (.tmp 48) (.tmp 49)⟩,
        ⟨some 51, .none, false, 0, .indexAddr 73 (.tmp 50) (.const (.int .i64 0))⟩,
        ⟨some 52, .none, false, 3, .load 3 (.tmp 51)⟩,
        ⟨some 53, .none, false, 23, .call { callee := .value (.func 52), args := #[.tmp 52], argTypes := #[3] }⟩,
        ⟨some 54, .none, true, 23, .binOp .mul 23 (.tmp 47) (.tmp 53) 23⟩,
        ⟨some 55, .none, true, 23, .binOp .add 23 (.tmp 43) (.tmp 54) 23⟩,
        ⟨some 6, .none, true, 23, .assign (.tmp 55)⟩])))
  (.keep [0, 1, 6, 7]
  (.region [⟨some 22, .none, true, 3, .move (.tmp 7)⟩,
    ⟨some 23, .none, true, 3, .binOp .add 3 (.tmp 22) (.const (.int .i64 1)) 3⟩,
    ⟨some 7, .none, true, 3, .assign (.tmp 23)⟩]))))
def rc40 : RCode :=
  (.seq
    (.region [⟨some 4, .none, true, 23, .assign (.const (.int .u64 0))⟩,
      ⟨some 5, .none, true, 4, .assign (.const (.bool false))⟩])
  (.keep [0, 1]
  (.seq
    (.seq
      (.region [⟨some 8, .none, true, 63, .move (.tmp 0)⟩,
        ⟨some 9, .none, true, 4, .call { callee := .value (.func 42), args := #[.tmp 8], argTypes := #[63] }⟩,
        ⟨some 10, .none, true, 4, .unOp .not 4 (.tmp 9)⟩,
        ⟨some 11, .none, true, 4, .move (.tmp 10)⟩,
        ⟨some 12, .some 11 false, true, 26, .move (.tmp 1)⟩,
        ⟨some 13, .some 11 false, true, 3, .call { callee := .builtin .len, args := #[.tmp 12], argTypes := #[26] }⟩,
        ⟨some 14, .some 11 false, true, 63, .move (.tmp 0)⟩,
        ⟨some 15, .some 11 false, true, 3, .call { callee := .builtin .len, args := #[.tmp 14], argTypes := #[63] }⟩,
        ⟨some 16, .some 11 false, true, 4, .binOp .neq 3 (.tmp 13) (.tmp 15) 3⟩,
        ⟨some 17, .none, true, 4, .pick (.tmp 11) (.const (.bool true)) (.tmp 16)⟩])
    (.keep [0, 1, 17]
    (.cond (.tmp 17)
      (.seq
        (.region [⟨some 4, .none, true, 23, .assign (.const (.int .u64 0))⟩,
          ⟨some 5, .none, true, 4, .assign (.const (.bool false))⟩])
      .ret)
      .skip)))
  (.seq
    (.region [⟨some 6, .none, true, 23, .assign (.const (.int .u64 0))⟩])
  (.keep [0, 1, 6]
  (.seq
    (.seq
      (.region [⟨some 7, .none, true, 3, .assign (.const (.int .i64 0))⟩])
    (.keep [0, 1, 6, 7]
    (.block 0
      (.loop [0, 1, 6, 7] rc40l0))))
  (.seq
    (.region [⟨some 56, .none, true, 23, .move (.tmp 6)⟩,
      ⟨some 4, .none, true, 23, .assign (.tmp 56)⟩,
      ⟨some 5, .none, true, 4, .assign (.const (.bool true))⟩])
  .ret)))))))
theorem t40 : FnT Try.prog 40 rc40 [.tmp 4, .tmp 5] 2 := ⟨⟨Try.f40, _, Try.func40, rfl, by kernel_rfl, by kernel_rfl, by kernel_rfl, rfl, by decide⟩, by kernel_rfl⟩
/-- reeve/reeveref1.Ver -/
def rc41 : RCode :=
  (.seq
    (.region [⟨some 4, .none, true, 23, .assign (.const (.int .u64 0))⟩,
      ⟨some 5, .none, true, 4, .assign (.const (.bool false))⟩])
  (.keep [0, 1]
  (.seq
    (.seq
      (.region [⟨some 6, .none, true, 23, .move (.tmp 0)⟩,
        ⟨some 7, .none, true, 23, .call { callee := .value (.func 52), args := #[.const (.int .i64 48)], argTypes := #[3] }⟩,
        ⟨some 8, .none, true, 4, .binOp .geq 23 (.tmp 6) (.tmp 7) 23⟩,
        ⟨some 9, .none, true, 4, .move (.tmp 8)⟩,
        ⟨some 10, .some 9 false, true, 3, .move (.tmp 1)⟩,
        ⟨some 11, .some 9 false, true, 4, .binOp .lss 3 (.tmp 10) (.const (.int .i64 0)) 3⟩,
        ⟨some 12, .none, true, 4, .pick (.tmp 9) (.const (.bool true)) (.tmp 11)⟩,
        ⟨some 13, .none, true, 4, .move (.tmp 12)⟩,
        ⟨some 14, .some 13 false, true, 3, .move (.tmp 1)⟩,
        ⟨some 15, .some 13 false, true, 4, .binOp .gtr 3 (.tmp 14) (.const (.int .i64 65535)) 3⟩,
        ⟨some 16, .none, true, 4, .pick (.tmp 13) (.const (.bool true)) (.tmp 15)⟩])
    (.keep [0, 1, 16]
    (.cond (.tmp 16)
      (.seq
        (.region [⟨some 4, .none, true, 23, .assign (.const (.int .u64 0))⟩,
          ⟨some 5, .none, true, 4, .assign (.const (.bool false))⟩])
      .ret)
      .skip)))
  (.seq
    (.region [⟨some 17, .none, true, 23, .move (.tmp 0)⟩,
      ⟨some 18, .none, true, 3, .move (.tmp 1)⟩,
      ⟨some 19, .none, true, 23, .convert 3 23 (.tmp 18)⟩,
      ⟨some 20, .none, true, 23, .call { callee := .value (.func 52), args := #[.const (.int .i64 48)], argTypes := #[3] }⟩,
      ⟨some 21, .none, true, 23, .binOp .mul 23 (.tmp 19) (.tmp 20) 23⟩,
      ⟨some 22, .none, true, 23, .binOp .add 23 (.tmp 17) (.tmp 21) 23⟩,
      ⟨some 4, .none, true, 23, .assign (.tmp 22)⟩,
      ⟨some 5, .none, true, 4, .assign (.const (.bool true))⟩])
  .ret))))
theorem t41 : FnT Try.prog 41 rc41 [.tmp 4, .tmp 5] 2 := ⟨⟨Try.f41, _, Try.func41, rfl, by kernel_rfl, by kernel_rfl, by kernel_rfl, rfl, by decide⟩, by kernel_rfl⟩
/-- reeve/reeveref1.Fields -/
def rc42l0 : RCode :=
  (.seq
    (.seq
      (.region [⟨some 48, .none, true, 3, .move (.tmp 5)⟩,
        ⟨some 49, .none, true, 63, .move (.tmp 0)⟩,
        ⟨some 50, .none, true, 3, .move (.tmp 4)⟩,
        ⟨some 51, .none, true, 0, .indexAddr 63 (.tmp 49) (.tmp 50)⟩,
        ⟨some 52, .none, true, 0, .indexAddr 73 (.tmp 51) (.const (.int .i64 1))⟩,
        ⟨some 53, .none, true, 3, .load 3 (.tmp 52)⟩,
        ⟨some 54, .none, true, 4, .binOp .lss 3 (.tmp 48) (.tmp 53) 3⟩])
    (.keep [0, 3, 4, 5, 54]
    (.cond (.tmp 54)
      .skip
      (.exit 2))))
  (.seq
    (.block 3
      (.seq
        (.seq
          (.region [⟨some 57, .none, true, 63, .move (.tmp 0)⟩,
            ⟨some 58, .none, true, 3, .move (.tmp 4)⟩,
            ⟨some 59, .none, true, 0, .indexAddr 63 (.tmp 57) (.tmp 58)⟩,
            ⟨some 60, .none, true, 0, .indexAddr 73 (.tmp 59) (.const (.int .i64 0))⟩,
            ⟨some 61, .none, true, 3, .load 3 (.tmp 60)⟩,
            ⟨some 62, .none, true, 3, .move (.tmp 5)⟩,
            ⟨some 63, .none, true, 3, .binOp .add 3 (.tmp 61) (.tmp 62) 3⟩,
            ⟨some 64, .none, true, 0, .indexAddr 75 (.tmp 3) (.tmp 63)⟩,
            ⟨some 65, .none, true, 4, .load 4 (.tmp 64)⟩])
        (.keep [0, 3, 4, 5, 65]
        (.cond (.tmp 65)
          (.seq
            (.region [⟨some 2, .none, true, 4, .assign (.const (.bool false))⟩])
          .ret)
          .skip)))
      (.region [⟨some 66, .none, true, 63, .move (.tmp 0)⟩,
        ⟨some 67, .none, true, 3, .move (.tmp 4)⟩,
        ⟨some 68, .none, true, 0, .indexAddr 63 (.tmp 66) (.tmp 67)⟩,
        ⟨some 69, .none, true, 0, .indexAddr 73 (.tmp 68) (.const (.int .i64 0))⟩,
        ⟨some 70, .none, true, 3, .load 3 (.tmp 69)⟩,
        ⟨some 71, .none, true, 3, .move (.tmp 5)⟩,
        ⟨some 72, .none, true, 3, .binOp .add 3 (.tmp 70) (.tmp 71) 3⟩,
        ⟨some 73, .none, true, 0, .indexAddr 75 (.tmp 3) (.tmp 72)⟩,
        ⟨none, .none, true, 0, .store 4 (.tmp 73) (.const (.bool true))⟩])))
  (.keep [0, 3, 4, 5]
  (.region [⟨some 55, .none, true, 3, .move (.tmp 5)⟩,
    ⟨some 56, .none, true, 3, .binOp .add 3 (.tmp 55) (.const (.int .i64 1)) 3⟩,
    ⟨some 5, .none, true, 3, .assign (.tmp 56)⟩]))))
def rc42l1 : RCode :=
  (.seq
    (.seq
      (.region [⟨some 6, .none, true, 3, .move (.tmp 4)⟩,
        ⟨some 7, .none, true, 63, .move (.tmp 0)⟩,
        ⟨some 8, .none, true, 3, .call { callee := .builtin .len, args := #[.tmp 7], argTypes := #[63] }⟩,
        ⟨some 9, .none, true, 4, .binOp .lss 3 (.tmp 6) (.tmp 8) 3⟩])
    (.keep [0, 3, 4, 9]
    (.cond (.tmp 9)
      .skip
      (.exit 0))))
  (.seq
    (.block 1
      (.seq
        (.seq
          (.region [⟨some 12, .none, true, 63, .move (.tmp 0)⟩,
            ⟨some 13, .none, true, 3, .move (.tmp 4)⟩,
            ⟨some 14, .none, true, 0, .indexAddr 63 (.tmp 12) (.tmp 13)⟩,
            ⟨some 15, .none, true, 0, .indexAddr 73 (.tmp 14) (.const (.int .i64 0))⟩,
            ⟨some 16, .none, true, 3, .load 3 (.tmp 15)⟩,
            ⟨some 17, .none, true, 4, .binOp .lss 3 (.tmp 16) (.const (.int .i64 0)) 3⟩,
            ⟨some 18, .none, true, 4, .move (.tmp 17)⟩,
            ⟨some 19, .some 18 false, true, 63, .move (.tmp 0)⟩,
            ⟨some 20, .some 18 false, true, 3, .move (.tmp 4)⟩,
            ⟨some 21, .some 18 false, true, 0, .indexAddr 63 (.tmp 19) (.tmp 20)⟩,
            ⟨some 22, .some 18 false, true, 0, .indexAddr 73 (.tmp 21) (.const (.int .i64 0))⟩,
            ⟨some 23, .some 18 false, true, 3, .load 3 (.tmp 22)⟩,
            ⟨some 24, .some 18 false, true, 4, .binOp .gtr 3 (.tmp 23) (.const (.int .i64 63)) 3⟩,
            ⟨some 25, .none, true, 4, .pick (.tmp 18) (.const (.bool true)) (.tmp 24)⟩,
            ⟨some 26, .none, true, 4, .move (.tmp 25)⟩,
            ⟨some 27, .some 26 false, true, 63, .move (.tmp 0)⟩,
            ⟨some 28, .some 26 false, true, 3, .move (.tmp 4)⟩,
            ⟨some 29, .some 26 false, true, 0, .indexAddr 63 (.tmp 27) (.tmp 28)⟩,
            ⟨some 30, .some 26 false, true, 0, .indexAddr 73 (.tmp 29) (.const (.int .i64 1))⟩,
            ⟨some 31, .some 26 false, true, 3, .load 3 (.tmp 30)⟩,
            ⟨some 32, .some 26 false, true, 4, .binOp .lss 3 (.tmp 31) (.const (.int .i64 1)) 3⟩,
            ⟨some 33, .none, true, 4, .pick (.tmp 26) (.const (.bool true)) (.tmp 32)⟩,
            ⟨some 34, .none, true, 4, .move (.tmp 33)⟩,
            ⟨some 35, .some 34 false, false, 63, .move (.tmp 0)⟩,
            ⟨some 36, .some 34 false, false, 3, .move (.tmp 4)⟩,
            ⟨some 37, .some 34 false, false, 0, .indexAddr 63 (.tmp 35) (.tmp 36)⟩,
            ⟨some 38, .some 34 false, false, 0, .indexAddr 73 (.tmp 37) (.const (.int .i64 1))⟩,
            ⟨some 39, .some 34 false, false, 3, .load 3 (.tmp 38)⟩,
            ⟨some 40, .some 34 false, false, 63, .move (.tmp 0)⟩,
            ⟨some 41, .some 34 false, false, 3, .move (.tmp 4)⟩,
            ⟨some 42, .some 34 false, false, 0, .indexAddr 63 (.tmp 40) (.tmp 41)⟩,
            ⟨some 43, .some 34 false, false, 0, .indexAddr 73 (.tmp 42) (.const (.int .i64 0))⟩,
            ⟨some 44, .some 34 false, false, 3, .load 3 (.tmp 43)⟩,
            ⟨some 45, .some 34 false, false, 3, .binOp .sub 3 (.const (.int .i64 64)) (.tmp 44) 3⟩,
            ⟨some 46, .some 34 false, true, 4, .binOp .gtr 3 (.tmp 39) (.tmp 45) 3⟩,
            ⟨some 47, .none, true, 4, .pick (.tmp 34) (.const (.bool true)) (.tmp 46)⟩])
        (.keep [0, 3, 4, 47]
        (.cond (.tmp 47)
          (.seq
            (.region [⟨some 2, .none, true, 4, .assign (.const (.bool false))⟩])
          .ret)
          .skip)))
      (.seq
        (.region [⟨some 5, .none, true, 3, .assign (.const (.int .i64 0))⟩])
      (.keep [0, 3, 4, 5]
      (.block 2
        (.loop [0, 3, 4, 5] rc42l0))))))
  (.keep [0, 3, 4]
  (.region [⟨some 10, .none, true, 3, .move (.tmp 4)⟩,
    ⟨some 11, .none, true, 3, .binOp .add 3 (.tmp 10) (.const (.int .i64 1)) 3⟩,
    ⟨some 4, .none, true, 3, .assign (.tmp 11)⟩]))))
def rc42 : RCode :=
  (.seq
    (.region [⟨some 2, .none, true, 4, .assign (.const (.bool false))⟩])
  (.keep [0]
  (.seq
    (.region [⟨some 3, .none, true, 0, .alloc 75⟩])
  (.keep [0, 3]
  (.seq
    (.seq
      (.region [⟨some 4, .none, true, 3, .assign (.const (.int .i64 0))⟩])
    (.keep [0, 3, 4]
    (.block 0
      (.loop [0, 3, 4] rc42l1))))
  (.seq
    (.region [⟨some 2, .none, true, 4, .assign (.const (.bool true))⟩])
  .ret))))))
theorem t42 : FnT Try.prog 42 rc42 [.tmp 2] 1 := ⟨⟨Try.f42, _, Try.func42, rfl, by kernel_rfl, by kernel_rfl, by kernel_rfl, rfl, by decide⟩, by kernel_rfl⟩
/-- reeve/reeveref1.GetFields -/
def rc43l0 : RCode :=
  (.seq
    (.seq
      (.region [⟨some 19, .none, true, 3, .move (.tmp 8)⟩,
        ⟨some 20, .none, true, 63, .move (.tmp 1)⟩,
        ⟨some 21, .none, true, 3, .move (.tmp 6)⟩,
        ⟨some 22, .none, true, 0, .indexAddr 63 (.tmp 20) (.tmp 21)⟩,
        ⟨some 23, .none, true, 0, .indexAddr 73 (.tmp 22) (.const (.int .i64 1))⟩,
        ⟨some 24, .none, true, 3, .load 3 (.tmp 23)⟩,
        ⟨some 25, .none, true, 4, .binOp .lss 3 (.tmp 19) (.tmp 24) 3⟩])
    (.keep [0, 1, 5, 6, 7, 8, 25]
    (.cond (.tmp 25)
      .skip
      (.exit 2))))
  (.seq
    (.block 3
      (.seq
        (.region [⟨some 28, .none, true, 23, .move (.tmp 0)⟩,
          ⟨some 29, .none, true, 63, .move (.tmp 1)⟩,
          ⟨some 30, .none, true, 3, .move (.tmp 6)⟩,
          ⟨some 31, .none, true, 0, .indexAddr 63 (.tmp 29) (.tmp 30)⟩,
          ⟨some 32, .none, true, 0, .indexAddr 73 (.tmp 31) (.const (.int .i64 0))⟩,
          ⟨some 33, .none, true, 3, .load 3 (.tmp 32)⟩,
          ⟨some 34, .none, true, 3, .move (.tmp 8)⟩,
          ⟨some 35, .none, true, 3, .binOp .add 3 (.tmp 33) (.tmp 34) 3⟩,
          ⟨some 36, .none, true, 4, .call { callee := .value (.func 53), args := #[.tmp 28, .tmp 35], argTypes := #[23, 3] }⟩])
      (.keep [0, 1, 5, 6, 7, 8, 36]
      (.cond (.tmp 36)
        (.region [⟨some 37, .none, true, 23, .move (.tmp 7)⟩,
          ⟨some 38, .none, true, 3, .move (.tmp 8)⟩,
          ⟨some 39, .none, true, 23, .call { callee := .value (.func 52), args := #[.tmp 38], argTypes := #[3] }⟩,
          ⟨some 40, .none, true, 23, .binOp .add 23 (.tmp 37) (.tmp 39) 23⟩,
          ⟨some 7, .none, true, 23, .assign (.tmp 40)⟩])
        .skip))))
  (.keep [0, 1, 5, 6, 7, 8]
  (.region [⟨some 26, .none, true, 3, .move (.tmp 8)⟩,
    ⟨some 27, .none, true, 3, .binOp .add 3 (.tmp 26) (.const (.int .i64 1)) 3⟩,
    ⟨some 8, .none, true, 3, .assign (.tmp 27)⟩]))))
def rc43l1 : RCode :=
  (.seq
    (.seq
      (.region [⟨some 9, .none, true, 3, .move (.tmp 6)⟩,
        ⟨some 10, .none, true, 63, .move (.tmp 1)⟩,
        ⟨some 11, .none, true, 3, .call { callee := .builtin .len, args := #[.tmp 10], argTypes := #[63] }⟩,
        ⟨some 12, .none, true, 4, .binOp .lss 3 (.tmp 9) (.tmp 11) 3⟩,
        ⟨some 13, .none, true, 4, .move (.tmp 12)⟩,
        ⟨some 14, .some 13 true, true, 63, .move (.tmp 1)⟩,
        ⟨some 15, .some 13 true, true, 4, .call { callee := .value (.func 42), args := #[.tmp 14], argTypes := #[63] }⟩,
        ⟨some 16, .none, true, 4, .pick (.tmp 13) (.tmp 15) (.const (.bool false))⟩])
    (.keep [0, 1, 5, 6, 16]
    (.cond (.tmp 16)
      .skip
      (.exit 0))))
  (.seq
    (.block 1
      (.seq
        (.region [⟨some 7, .none, true, 23, .assign (.const (.int .u64 0))⟩])
      (.keep [0, 1, 5, 6, 7]
      (.seq
        (.seq
          (.region [⟨some 8, .none, true, 3, .assign (.const (.int .i64 0))⟩])
        (.keep [0, 1, 5, 6, 7, 8]
        (.block 2
          (.loop [0, 1, 5, 6, 7, 8] rc43l0))))
      (.region [⟨some 41, .none, true, 26, .move (.tmp 5)⟩,
        ⟨some 42, .none, true, 23, .move (.tmp 7)⟩,
        ⟨some 43, .none, true, 26, .buildSlice 26 1 #[(0, .tmp 42)]⟩,
        ⟨some 44, .none, true, 26, .call { callee := .builtin .append, args := #[.tmp 41, .tmp 43], argTypes := #[26, 26] }⟩,
        ⟨some 5, .none, true, 26, .assign (.tmp 44)⟩])))))
  (.keep [0, 1, 5, 6]
  (.region [⟨some 17, .none, true, 3, .move (.tmp 6)⟩,
    ⟨some 18, .none, true, 3, .binOp .add 3 (.tmp 17) (.const (.int .i64 1)) 3⟩,
    ⟨some 6, .none, true, 3, .assign (.tmp 18)⟩]))))
def rc43 : RCode :=
  (.seq
    (.region [⟨some 4, .none, true, 26, .assign (.const (.slice none 0 0))⟩])
  (.keep [0, 1]
  (.seq
    (.region [⟨some 5, .none, true, 26, .assign (.const (.slice none 0 0))⟩])
  (.keep [0, 1, 5]
  (.seq
    (.seq
      (.region [⟨some 6, .none, true, 3, .assign (.const (.int .i64 0))⟩])
    (.keep [0, 1, 5, 6]
    (.block 0
      (.loop [0, 1, 5, 6] rc43l1))))
  (.seq
    (.region [⟨some 45, .none, true, 26, .move (.tmp 5)⟩,
      ⟨some 4, .none, true, 26, .assign (.tmp 45)⟩])
  .ret))))))
theorem t43 : FnT Try.prog 43 rc43 [.tmp 4] 2 := ⟨⟨Try.f43, _, Try.func43, rfl, by kernel_rfl, by kernel_rfl, by kernel_rfl, rfl, by decide⟩, by kernel_rfl⟩
/-- reeve/reeveref1.Rest -/
def rc44l0 : RCode :=
  (.seq
    (.seq
      (.region [⟨some 17, .none, true, 3, .move (.tmp 6)⟩,
        ⟨some 18, .none, true, 63, .move (.tmp 1)⟩,
        ⟨some 19, .none, true, 3, .move (.tmp 5)⟩,
        ⟨some 20, .none, true, 0, .indexAddr 63 (.tmp 18) (.tmp 19)⟩,
        ⟨some 21, .none, true, 0, .indexAddr 73 (.tmp 20) (.const (.int .i64 1))⟩,
        ⟨some 22, .none, true, 3, .load 3 (.tmp 21)⟩,
        ⟨some 23, .none, true, 4, .binOp .lss 3 (.tmp 17) (.tmp 22) 3⟩])
    (.keep [0, 1, 5, 6, 23]
    (.cond (.tmp 23)
      .skip
      (.exit 2))))
  (.seq
    (.block 3
      (.seq
        (.region [⟨some 26, .none, true, 23, .move (.tmp 0)⟩,
          ⟨some 27, .none, true, 63, .move (.tmp 1)⟩,
          ⟨some 28, .none, true, 3, .move (.tmp 5)⟩,
          ⟨some 29, .none, true, 0, .indexAddr 63 (.tmp 27) (.tmp 28)⟩,
          ⟨some 30, .none, true, 0, .indexAddr 73 (.tmp 29) (.const (.int .i64 0))⟩,
          ⟨some 31, .none, true, 3, .load 3 (.tmp 30)⟩,
          ⟨some 32, .none, true, 3, .move (.tmp 6)⟩,
          ⟨some 33, .none, true, 3, .binOp .add 3 (.tmp 31) (.tmp 32) 3⟩,
          ⟨some 34, .none, true, 4, .call { callee := .value (.func 53), args := #[.tmp 26, .tmp 33], argTypes := #[23, 3] }⟩])
      (.keep [0, 1, 5, 6, 34]
      (.cond (.tmp 34)
        (.region [⟨some 35, .none, true, 23, .move (.tmp 0)⟩,
          ⟨some 36, .none, true, 63, .move (.tmp 1)⟩,
          ⟨some 37, .none, true, 3, .move (.tmp 5)⟩,
          ⟨some 38, .none, true, 0, .indexAddr 63 (.tmp 36) (.tmp 37)⟩,
          ⟨some 39, .none, true, 0, .indexAddr 73 (.tmp 38) (.const (.int .i64 0))⟩,
          ⟨some 40, .none, true, 3, .load 3 (.tmp 39)⟩,
          ⟨some 41, .none, true, 3, .move (.tmp 6)⟩,
          ⟨some 42, .none, true, 3, .binOp .add 3 (.tmp 40) (.tmp 41) 3⟩,
          ⟨some 43, .none, true, 23, .call { callee := .value (.func 52), args := #[.tmp 42], argTypes := #[3] }⟩,
          ⟨some 44, .none, true, 23, .binOp .sub 23 (.tmp 35) (.tmp 43) 23⟩,
          ⟨some 0, .none, true, 23, .assign (.tmp 44)⟩])
        .skip))))
  (.keep [0, 1, 5, 6]
  (.region [⟨some 24, .none, true, 3, .move (.tmp 6)⟩,
    ⟨some 25, .none, true, 3, .binOp .add 3 (.tmp 24) (.const (.int .i64 1)) 3⟩,
    ⟨some 6, .none, true, 3, .assign (.tmp 25)⟩]))))
def rc44l1 : RCode :=
  (.seq
    (.seq
      (.region [⟨some 7, .none, true, 3, .move (.tmp 5)⟩,
        ⟨some 8, .none, true, 63, .move (.tmp 1)⟩,
        ⟨some 9, .none, true, 3, .call { callee := .builtin .len, args := #[.tmp 8], argTypes := #[63] }⟩,
        ⟨some 10, .none, true, 4, .binOp .lss 3 (.tmp 7) (.tmp 9) 3⟩,
        ⟨some 11, .none, true, 4, .move (.tmp 10)⟩,
        ⟨some 12, .some 11 true, true, 63, .move (.tmp 1)⟩,
        ⟨some 13, .some 11 true, true, 4, .call { callee := .value (.func 42), args := #[.tmp 12], argTypes := #[63] }⟩,
        ⟨some 14, .none, true, 4, .pick (.tmp 11) (.tmp 13) (.const (.bool false))⟩])
    (.keep [0, 1, 5, 14]
    (.cond (.tmp 14)
      .skip
      (.exit 0))))
  (.seq
    (.block 1
      (.seq
        (.region [⟨some 6, .none, true, 3, .assign (.const (.int .i64 0))⟩])
      (.keep [0, 1, 5, 6]
      (.block 2
        (.loop [0, 1, 5, 6] rc44l0)))))
  (.keep [0, 1, 5]
  (.region [⟨some 15, .none, true, 3, .move (.tmp 5)⟩,
    ⟨some 16, .none, true, 3, .binOp .add 3 (.tmp 15) (.const (.int .i64 1)) 3⟩,
    ⟨some 5, .none, true, 3, .assign (.tmp 16)⟩]))))
def rc44 : RCode :=
  (.seq
    (.region [⟨some 4, .none, true, 23, .assign (.const (.int .u64 0))⟩])
  (.keep [0, 1]
  (.seq
    (.seq
      (.region [⟨some 5, .none, true, 3, .assign (.const (.int .i64 0))⟩])
    (.keep [0, 1, 5]
    (.block 0
      (.loop [0, 1, 5] rc44l1))))
  (.seq
    (.region [⟨some 45, .none, true, 23, .move (.tmp 0)⟩,
      ⟨some 4, .none, true, 23, .assign (.tmp 45)⟩])
  .ret))))
theorem t44 : FnT Try.prog 44 rc44 [.tmp 4] 2 := ⟨⟨Try.f44, _, Try.func44, rfl, by kernel_rfl, by kernel_rfl, by kernel_rfl, rfl, by decide⟩, by kernel_rfl⟩
/-- reeve/tag.all -/
def rc45l0 : RCode :=
  (.seq
    (.region [⟨some 10, .none, true, 0, .binOp .lss 3 (.tmp 9) (.tmp 8) 3⟩])
  (.keep [4, 7, 8, 9, 10]
  (.seq
    (.cond (.tmp 10)
      .skip
      (.exit 0))
  (.keep [4, 7, 8, 9]
  (.seq
    (.block 1
      (.seq
        (.region [⟨some 11, .none, true, 0, .indexAddr 22 (.tmp 7) (.tmp 9)⟩,
          ⟨some 12, .none, true, 34, .load 34 (.tmp 11)⟩,
          ⟨some 6, .none, true, 0, .alloc 34⟩,
          ⟨none, .none, true, 0, .store 34 (.tmp 6) (.tmp 12)⟩])
      (.keep [4, 6, 7, 8, 9]
      (.seq
        (.seq
          (.region [⟨some 13, .none, true, 0, .fieldAddr 34 (.tmp 6) 0⟩,
            ⟨some 14, .none, true, 3, .load 3 (.tmp 13)⟩,
            ⟨some 15, .none, true, 4, .binOp .lss 3 (.tmp 14) (.const (.int .i64 0)) 3⟩,
            ⟨some 16, .none, true, 4, .move (.tmp 15)⟩,
            ⟨some 17, .some 16 false, true, 0, .fieldAddr 34 (.tmp 6) 0⟩,
            ⟨some 18, .some 16 false, true, 3, .load 3 (.tmp 17)⟩,
            ⟨some 19, .some 16 false, true, 4, .binOp .geq 3 (.tmp 18) (.const (.int .i64 64)) 3⟩,
            ⟨some 20, .none, true, 4, .pick (.tmp 16) (.const (.bool true)) (.tmp 19)⟩,
            ⟨some 21, .none, true, 4, .move (.tmp 20)⟩,
            ⟨some 22, .some 21 false, true, 0, .fieldAddr 34 (.tmp 6) 1⟩,
            ⟨some 23, .some 21 false, true, 3, .load 3 (.tmp 22)⟩,
            ⟨some 24, .some 21 false, true, 4, .binOp .lss 3 (.tmp 23) (.const (.int .i64 1)) 3⟩,
            ⟨some 25, .none, true, 4, .pick (.tmp 21) (.const (.bool true)) (.tmp 24)⟩,
            ⟨some 26, .none, true, 4, .move (.tmp 25)⟩,
            ⟨some 27, .some 26 false, true, 0, .fieldAddr 34 (.tmp 6) 1⟩,
            ⟨some 28, .some 26 false, true, 3, .load 3 (.tmp 27)⟩,
            ⟨some 29, .some 26 false, true, 0, .fieldAddr 34 (.tmp 6) 0⟩,
            ⟨some 30, .some 26 false, true, 3, .load 3 (.tmp 29)⟩,
            ⟨some 31, .some 26 false, true, 3, .binOp .sub 3 (.const (.int .i64 64)) (.tmp 30) 3⟩,
            ⟨some 32, .some 26 false, true, 4, .binOp .gtr 3 (.tmp 28) (.tmp 31) 3⟩,
            ⟨some 33, .none, true, 4, .pick (.tmp 26) (.const (.bool true)) (.tmp 32)⟩,
            ⟨some 34, .none, true, 4, .move (.tmp 33)⟩,
            ⟨some 35, .some 34 false, true, 23, .move (.tmp 4)⟩,
            ⟨some 36, .some 34 false, true, 34, .load 34 (.tmp 6)⟩,
            ⟨some 37, .some 34 false, true, 23, .call { callee := .value (.func 46), args := #[.tmp 36], argTypes := #[34] }⟩,
            ⟨some 38, .some 34 false, true, 23, .binOp .and 23 (.tmp 35) (.tmp 37) 23⟩,
            ⟨some 39, .some 34 false, true, 4, .binOp .neq 23 (.tmp 38) (.const (.int .u64 0)) 23⟩,
            ⟨some 40, .none, true, 4, .pick (.tmp 34) (.const (.bool true)) (.tmp 39)⟩])
        (.keep [4, 6, 7, 8, 9, 40]
        (.cond (.tmp 40)
          (.seq
            (.region [⟨some 2, .none, true, 23, .assign (.const (.int .u64 0))⟩,
              ⟨some 3, .none, true, 4, .assign (.const (.bool false))⟩])
          .ret)
          .skip)))
      (.region [⟨some 41, .none, true, 23, .move (.tmp 4)⟩,
        ⟨some 42, .none, true, 34, .load 34 (.tmp 6)⟩,
        ⟨some 43, .none, true, 23, .call { callee := .value (.func 46), args := #[.tmp 42], argTypes := #[34] }⟩,
        ⟨some 44, .none, true, 23, .binOp .or 23 (.tmp 41) (.tmp 43) 23⟩,
        ⟨some 4, .none, true, 23, .assign (.tmp 44)⟩])))))
  (.keep [4, 7, 8, 9]
  (.region [⟨some 45, .none, true, 3, .binOp .add 3 (.tmp 9) (.const (.int .i64 1)) 3⟩,
    ⟨some 9, .none, true, 3, .move (.tmp 45)⟩])))))))
def rc45 : RCode :=
  (.seq
    (.region [⟨some 2, .none, true, 23, .assign (.const (.int .u64 0))⟩,
      ⟨some 3, .none, true, 4, .assign (.const (.bool false))⟩])
  (.keep [0]
  (.seq
    (.region [⟨some 4, .none, true, 23, .assign (.const (.int .u64 0))⟩])
  (.keep [0, 4]
  (.seq
    (.seq
      (.region [⟨some 7, .none, true, 22, .move (.tmp 0)⟩,
        ⟨some 8, .none, true, 3, .call { callee := .builtin .len, args := #[.tmp 7], argTypes := #[22] }⟩,
        ⟨some 9, .none, true, 3, .move (.const (.int .i64 0))⟩])
    (.keep [4, 7, 8, 9]
    (.block 0
      (.loop [4, 7, 8, 9] rc45l0))))
  (.seq
    (.region [⟨some 46, .none, true, 23, .move (.tmp 4)⟩,
      ⟨some 2, .none, true, 23, .assign (.tmp 46)⟩,
      ⟨some 3, .none, true, 4, .assign (.const (.bool true))⟩])
  .ret))))))
theorem t45 : FnT Try.prog 45 rc45 [.tmp 2, .tmp 3] 1 := ⟨⟨Try.f45, _, Try.func45, rfl, by kernel_rfl, by kernel_rfl, by kernel_rfl, rfl, by decide⟩, by kernel_rfl⟩
/-- (reeve/tag.Field).mask -/
def rc46 : RCode :=
  (.seq
    (.region [⟨some 1, .none, true, 0, .box 34 (.tmp 0)⟩,
      ⟨some 2, .none, true, 23, .assign (.const (.int .u64 0))⟩])
  (.keep [1]
  (.seq
    (.region [⟨some 3, .none, false, 0, .fieldAddr 34 (.tmp 1) 1⟩,
      ⟨some 4, .none, false, 3, .load 3 (.tmp 3)⟩,
      ⟨some 5, .none, false, 23, .binOp .shl 23 (.const (.int .u64 1)) (.tmp 4) 3⟩,
      ⟨some 6, .none, false, 23, .binOp .sub 23 (.tmp 5) (.const (.int .u64 1)) 23⟩,
      ⟨some 7, .none, false, 0, .fieldAddr 34 (.tmp 1) 0⟩,
      ⟨some 8, .none, false, 3, .load 3 (.tmp 7)⟩,
      ⟨some 9, .none, true, 23, .binOp .shl 23 (.tmp 6) (.tmp 8) 3⟩,
      ⟨some 2, .none, true, 23, .assign (.tmp 9)⟩])
  .ret)))
theorem t46 : FnT Try.prog 46 rc46 [.tmp 2] 1 := ⟨⟨Try.f46, _, Try.func46, rfl, by kernel_rfl, by kernel_rfl, by kernel_rfl, rfl, by decide⟩, by kernel_rfl⟩
/-- reeve/geo.in -/
def rc47 : RCode :=
  (.seq
    (.region [⟨some 6, .none, true, 4, .assign (.const (.bool false))⟩])
  (.keep [0, 1, 2]
  (.seq
    (.region [⟨some 7, .none, true, 3, .move (.tmp 0)⟩,
      ⟨some 8, .none, true, 3, .move (.tmp 1)⟩,
      ⟨some 9, .none, true, 4, .binOp .geq 3 (.tmp 7) (.tmp 8) 3⟩,
      ⟨some 10, .none, true, 4, .move (.tmp 9)⟩,
      ⟨some 11, .some 10 true, true, 3, .move (.tmp 0)⟩,
      ⟨some 12, .some 10 true, true, 3, .move (.tmp 2)⟩,
      ⟨some 13, .some 10 true, true, 4, .binOp .leq 3 (.tmp 11) (.tmp 12) 3⟩,
      ⟨some 14, .none, true, 4, .pick (.tmp 10) (.tmp 13) (.const (.bool false))⟩,
      ⟨some 6, .none, true, 4, .assign (.tmp 14)⟩])
  .ret)))
theorem t47 : FnT Try.prog 47 rc47 [.tmp 6] 3 := ⟨⟨Try.f47, _, Try.func47, rfl, by kernel_rfl, by kernel_rfl, by kernel_rfl, rfl, by decide⟩, by kernel_rfl⟩
/-- reeve/geo.slotsAt -/
def rc48 : RCode :=
  (.seq
    (.region [⟨some 1, .none, true, 0, .box 45 (.tmp 0)⟩,
      ⟨some 2, .none, true, 3, .assign (.const (.int .i64 0))⟩])
  (.keep [1]
  (.seq
    (.region [⟨some 3, .none, true, 0, .fieldAddr 45 (.tmp 1) 0⟩,
      ⟨some 4, .none, true, 3, .load 3 (.tmp 3)⟩,
      ⟨some 5, .none, true, 3, .binOp .mul 3 (.tmp 4) (.const (.int .i64 1208)) 3⟩,
      ⟨some 6, .none, true, 3, .binOp .add 3 (.const (.int .i64 16)) (.tmp 5) 3⟩,
      ⟨some 2, .none, true, 3, .assign (.tmp 6)⟩])
  .ret)))
theorem t48 : FnT Try.prog 48 rc48 [.tmp 2] 1 := ⟨⟨Try.f48, _, Try.func48, rfl, by kernel_rfl, by kernel_rfl, by kernel_rfl, rfl, by decide⟩, by kernel_rfl⟩
/-- reeve/geo.thingsAt -/
def rc49 : RCode :=
  (.seq
    (.region [⟨some 1, .none, true, 0, .box 45 (.tmp 0)⟩,
      ⟨some 2, .none, true, 3, .assign (.const (.int .i64 0))⟩])
  (.keep [1]
  (.seq
    (.region [⟨some 3, .none, false, 45, .load 45 (.tmp 1)⟩,
      ⟨some 4, .none, false, 3, .call { callee := .value (.func 48), args := #[.tmp 3], argTypes := #[45] }⟩,
      ⟨some 5, .none, false, 0, .fieldAddr 45 (.tmp 1) 1⟩,
      ⟨some 6, .none, false, 3, .load 3 (.tmp 5)⟩,
      ⟨some 7, .none, false, 3, .binOp .mul 3 (.const (.int .i64 2)) (.tmp 6) 3⟩,
      ⟨some 8, .none, true, 3, .binOp .add 3 (.tmp 4) (.tmp 7) 3⟩,
      ⟨some 2, .none, true, 3, .assign (.tmp 8)⟩])
  .ret)))
theorem t49 : FnT Try.prog 49 rc49 [.tmp 2] 1 := ⟨⟨Try.f49, _, Try.func49, rfl, by kernel_rfl, by kernel_rfl, by kernel_rfl, rfl, by decide⟩, by kernel_rfl⟩
/-- reeve/reeveref1.long -/
def rc50 : RCode :=
  (.seq
    (.region [⟨some 0, .none, true, 3, .assign (.const (.int .i64 0))⟩])
  (.keep []
  (.seq
    (.region [⟨some 0, .none, true, 3, .assign (.const (.int .i64 1208))⟩])
  .ret)))
theorem t50 : FnT Try.prog 50 rc50 [.tmp 0] 0 := ⟨⟨Try.f50, _, Try.func50, rfl, by kernel_rfl, by kernel_rfl, by kernel_rfl, rfl, by decide⟩, by kernel_rfl⟩
/-- reeve/reeveref1.slots -/
def rc51 : RCode :=
  (.seq
    (.region [⟨some 1, .none, true, 0, .box 53 (.tmp 0)⟩,
      ⟨some 2, .none, true, 3, .assign (.const (.int .i64 0))⟩])
  (.keep [1]
  (.seq
    (.region [⟨some 3, .none, false, 0, .fieldAddr 53 (.tmp 1) 0⟩,
      ⟨some 4, .none, false, 3, .load 3 (.tmp 3)⟩,
      ⟨some 5, .none, false, 3, .call { callee := .value (.func 50), args := #[], argTypes := #[] }⟩,
      ⟨some 6, .none, true, 3, .binOp .mul 3 (.tmp 4) (.tmp 5) 3⟩,
      ⟨some 7, .none, true, 3, .binOp .add 3 (.const (.int .i64 16)) (.tmp 6) 3⟩,
      ⟨some 2, .none, true, 3, .assign (.tmp 7)⟩])
  .ret)))
theorem t51 : FnT Try.prog 51 rc51 [.tmp 2] 1 := ⟨⟨Try.f51, _, Try.func51, rfl, by kernel_rfl, by kernel_rfl, by kernel_rfl, rfl, by decide⟩, by kernel_rfl⟩
/-- reeve/reeveref1.two -/
def rc52l0 : RCode :=
  (.seq
    (.seq
      (.region [⟨some 5, .none, true, 3, .move (.tmp 4)⟩,
        ⟨some 6, .none, true, 3, .move (.tmp 0)⟩,
        ⟨some 7, .none, true, 4, .binOp .lss 3 (.tmp 5) (.tmp 6) 3⟩])
    (.keep [0, 3, 4, 7]
    (.cond (.tmp 7)
      .skip
      (.exit 0))))
  (.seq
    (.block 1
      (.region [⟨some 10, .none, true, 23, .move (.tmp 3)⟩,
        ⟨some 11, .none, true, 23, .binOp .mul 23 (.const (.int .u64 2)) (.tmp 10) 23⟩,
        ⟨some 3, .none, true, 23, .assign (.tmp 11)⟩]))
  (.keep [0, 3, 4]
  (.region [⟨some 8, .none, true, 3, .move (.tmp 4)⟩,
    ⟨some 9, .none, true, 3, .binOp .add 3 (.tmp 8) (.const (.int .i64 1)) 3⟩,
    ⟨some 4, .none, true, 3, .assign (.tmp 9)⟩]))))
def rc52 : RCode :=
  (.seq
    (.region [⟨some 2, .none, true, 23, .assign (.const (.int .u64 0))⟩])
  (.keep [0]
  (.seq
    (.region [⟨some 3, .none, true, 23, .assign (.const (.int .u64 1))⟩])
  (.keep [0, 3]
  (.seq
    (.seq
      (.region [⟨some 4, .none, true, 3, .assign (.const (.int .i64 0))⟩])
    (.keep [0, 3, 4]
    (.block 0
      (.loop [0, 3, 4] rc52l0))))
  (.seq
    (.region [⟨some 12, .none, true, 23, .move (.tmp 3)⟩,
      ⟨some 2, .none, true, 23, .assign (.tmp 12)⟩])
  .ret))))))
theorem t52 : FnT Try.prog 52 rc52 [.tmp 2] 1 := ⟨⟨Try.f52, _, Try.func52, rfl, by kernel_rfl, by kernel_rfl, by kernel_rfl, rfl, by decide⟩, by kernel_rfl⟩
/-- reeve/reeveref1.Bit -/
def rc53 : RCode :=
  (.seq
    (.region [⟨some 4, .none, true, 4, .assign (.const (.bool false))⟩])
  (.keep [0, 1]
  (.seq
    (.region [⟨some 5, .none, true, 23, .move (.tmp 0)⟩,
      ⟨some 6, .none, true, 3, .move (.tmp 1)⟩,
      ⟨some 7, .none, true, 23, .call { callee := .value (.func 52), args := #[.tmp 6], argTypes := #[3] }⟩,
      ⟨some 8, .none, true, 23, .binOp .quo 23 (.tmp 5) (.tmp 7) 23⟩,
      ⟨some 9, .none, true, 23, .binOp .rem 23 (.tmp 8) (.const (.int .u64 2)) 23⟩,
      ⟨some 10, .none, true, 4, .binOp .eql 23 (.tmp 9) (.const (.int .u64 1)) 23⟩,
      ⟨some 4, .none, true, 4, .assign (.tmp 10)⟩])
  .ret)))
theorem t53 : FnT Try.prog 53 rc53 [.tmp 4] 2 := ⟨⟨Try.f53, _, Try.func53, rfl, by kernel_rfl, by kernel_rfl, by kernel_rfl, rfl, by decide⟩, by kernel_rfl⟩

def tab : XTab :=
  [(3, rc3, [.tmp 4], 2),
   (4, rc4, [.tmp 8], 4),
   (5, rc5, [.tmp 6], 3),
   (6, rc6, [.tmp 0], 0),
   (7, rc7, [.tmp 4], 2),
   (8, rc8, [.tmp 2], 1),
   (9, rc9, [.tmp 0], 0),
   (10, rc10, [.tmp 10], 5),
   (11, rc11, [.tmp 0], 0),
   (12, rc12, [.tmp 2], 1),
   (13, rc13, [.tmp 4], 2),
   (14, rc14, [.tmp 4, .tmp 5], 2),
   (15, rc15, [.tmp 4], 2),
   (16, rc16, [.tmp 4], 2),
   (17, rc17, [.tmp 4, .tmp 5], 2),
   (18, rc18, [.tmp 4, .tmp 5], 2),
   (19, rc19, [.tmp 2], 1),
   (20, rc20, [.tmp 2], 1),
   (21, rc21, [.tmp 0], 0),
   (22, rc22, [.tmp 4, .tmp 5], 2),
   (23, rc23, [.tmp 2], 1),
   (24, rc24, [.tmp 2], 1),
   (25, rc25, [.tmp 2], 1),
   (26, rc26, [.tmp 4], 2),
   (27, rc27, [.tmp 4], 2),
   (28, rc28, [.tmp 2], 1),
   (29, rc29, [.tmp 4], 2),
   (30, rc30, [.cell 0 45], 0),
   (31, rc31, [.cell 2 53], 1),
   (32, rc32, [.tmp 4, .tmp 5], 2),
   (33, rc33, [.tmp 2], 1),
   (34, rc34, [.tmp 2], 1),
   (35, rc35, [.tmp 4], 2),
   (36, rc36, [.tmp 4], 2),
   (37, rc37, [.tmp 2], 1),
   (38, rc38, [.tmp 6], 3),
   (39, rc39, [.tmp 2], 1),
   (40, rc40, [.tmp 4, .tmp 5], 2),
   (41, rc41, [.tmp 4, .tmp 5], 2),
   (42, rc42, [.tmp 2], 1),
   (43, rc43, [.tmp 4], 2),
   (44, rc44, [.tmp 4], 2),
   (45, rc45, [.tmp 2, .tmp 3], 1),
   (46, rc46, [.tmp 2], 1),
   (47, rc47, [.tmp 6], 3),
   (48, rc48, [.tmp 2], 1),
   (49, rc49, [.tmp 2], 1),
   (50, rc50, [.tmp 0], 0),
   (51, rc51, [.tmp 2], 1),
   (52, rc52, [.tmp 2], 1),
   (53, rc53, [.tmp 4], 2)]
theorem tabOk : TabOk Try.prog tab :=
  .cons t3 <|
  .cons t4 <|
  .cons t5 <|
  .cons t6 <|
  .cons t7 <|
  .cons t8 <|
  .cons t9 <|
  .cons t10 <|
  .cons t11 <|
  .cons t12 <|
  .cons t13 <|
  .cons t14 <|
  .cons t15 <|
  .cons t16 <|
  .cons t17 <|
  .cons t18 <|
  .cons t19 <|
  .cons t20 <|
  .cons t21 <|
  .cons t22 <|
  .cons t23 <|
  .cons t24 <|
  .cons t25 <|
  .cons t26 <|
  .cons t27 <|
  .cons t28 <|
  .cons t29 <|
  .cons t30 <|
  .cons t31 <|
  .cons t32 <|
  .cons t33 <|
  .cons t34 <|
  .cons t35 <|
  .cons t36 <|
  .cons t37 <|
  .cons t38 <|
  .cons t39 <|
  .cons t40 <|
  .cons t41 <|
  .cons t42 <|
  .cons t43 <|
  .cons t44 <|
  .cons t45 <|
  .cons t46 <|
  .cons t47 <|
  .cons t48 <|
  .cons t49 <|
  .cons t50 <|
  .cons t51 <|
  .cons t52 <|
  .cons t53 <| .nil
end Go.Proofs.Ythigpfognkmegaa.F
