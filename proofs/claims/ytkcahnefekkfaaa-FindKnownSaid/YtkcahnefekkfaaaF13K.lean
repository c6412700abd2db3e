/- Functions of the program made ready for walking, each with its proof; facts of types. Written by gen2.py. -/
import Derived.Test.YtkcahnefekkfaaaF13Ka
set_option linter.unusedVariables false
set_option linter.unusedSectionVars false
set_option maxRecDepth 100000
namespace Go.Proofs.Ytkcahnefekkfaaa.F13K
open Go Go.Proofs Go.Proofs.YtkcahnefekkfaaaAbs
variable [Base]
def rc_slices_partialInsertionSortOrdered_intl3 : RCode :=
  (.seq
    (.seq
      (.region [⟨some 13, .none, true, 3, .move (.tmp 8)⟩,
        ⟨some 14, .none, true, 4, .binOp .lss 3 (.tmp 13) (.const (.int .i64 5)) 3⟩])
    (.keep [0, 1, 2, 7, 8, 14]
    (.cond (.tmp 14)
      .skip
      (.exit 0))))
  (.seq
    (.block 1
      (.seq
        (.block 2
          (.loop [0, 1, 2, 7, 8] rc_slices_partialInsertionSortOrdered_intl0))
      (.keep [0, 1, 2, 7, 8]
      (.seq
        (.seq
          (.region [⟨some 35, .none, true, 3, .move (.tmp 7)⟩,
            ⟨some 36, .none, true, 3, .move (.tmp 2)⟩,
            ⟨some 37, .none, true, 4, .binOp .eql 3 (.tmp 35) (.tmp 36) 3⟩])
        (.keep [0, 1, 2, 7, 8, 37]
        (.cond (.tmp 37)
          (.seq
            (.region [⟨some 6, .none, true, 4, .assign (.const (.bool true))⟩])
          .ret)
          .skip)))
      (.seq
        (.seq
          (.region [⟨some 38, .none, true, 3, .move (.tmp 2)⟩,
            ⟨some 39, .none, true, 3, .move (.tmp 1)⟩,
            ⟨some 40, .none, true, 3, .binOp .sub 3 (.tmp 38) (.tmp 39) 3⟩,
            ⟨some 41, .none, true, 4, .binOp .lss 3 (.tmp 40) (.const (.int .i64 50)) 3⟩])
        (.keep [0, 1, 2, 7, 8, 41]
        (.cond (.tmp 41)
          (.seq
            (.region [⟨some 6, .none, true, 4, .assign (.const (.bool false))⟩])
          .ret)
          .skip)))
      (.seq
        (.region [⟨some 42, .none, false, 35, .move (.tmp 0)⟩,
          ⟨some 43, .none, false, 3, .move (.tmp 7)⟩,
          ⟨some 44, .none, false, 35, .move (.tmp 0)⟩,
          ⟨some 45, .none, false, 3, .move (.tmp 7)⟩,
          ⟨some 46, .none, false, 3, .binOp .sub 3 (.tmp 45) (.const (.int .i64 1)) 3⟩,
          ⟨some 47, .none, false, 35, .move (.tmp 0)⟩,
          ⟨some 48, .none, false, 3, .move (.tmp 7)⟩,
          ⟨some 49, .none, false, 3, .binOp .sub 3 (.tmp 48) (.const (.int .i64 1)) 3⟩,
          ⟨some 50, .none, false, 0, .indexAddr 35 (.tmp 47) (.tmp 49)⟩,
          ⟨some 51, .none, false, 3, .load 3 (.tmp 50)⟩,
          ⟨some 52, .none, false, 35, .move (.tmp 0)⟩,
          ⟨some 53, .none, false, 3, .move (.tmp 7)⟩,
          ⟨some 54, .none, false, 0, .indexAddr 35 (.tmp 52) (.tmp 53)⟩,
          ⟨some 55, .none, false, 3, .load 3 (.tmp 54)⟩,
          ⟨some 56, .none, true, 0, .indexAddr 35 (.tmp 42) (.tmp 43)⟩,
          ⟨none, .none, true, 0, .store 3 (.tmp 56) (.tmp 51)⟩,
          ⟨some 57, .none, true, 0, .indexAddr 35 (.tmp 44) (.tmp 46)⟩,
          ⟨none, .none, true, 0, .store 3 (.tmp 57) (.tmp 55)⟩])
      (.keep [0, 1, 2, 7, 8]
      (.seq
        (.seq
          (.region [⟨some 58, .none, true, 3, .move (.tmp 7)⟩,
            ⟨some 59, .none, true, 3, .move (.tmp 1)⟩,
            ⟨some 60, .none, true, 3, .binOp .sub 3 (.tmp 58) (.tmp 59) 3⟩,
            ⟨some 61, .none, true, 4, .binOp .geq 3 (.tmp 60) (.const (.int .i64 2)) 3⟩])
        (.keep [0, 1, 2, 7, 8, 61]
        (.cond (.tmp 61)
          (.seq
            (.region [⟨some 62, .none, true, 3, .move (.tmp 7)⟩,
              ⟨some 63, .none, true, 3, .binOp .sub 3 (.tmp 62) (.const (.int .i64 1)) 3⟩,
              ⟨some 9, .none, true, 3, .assign (.tmp 63)⟩])
          (.keep [0, 1, 2, 7, 8, 9]
          (.block 4
            (.loop [0, 1, 2, 7, 8, 9] rc_slices_partialInsertionSortOrdered_intl1))))
          .skip)))
      (.seq
        (.region [⟨some 95, .none, true, 3, .move (.tmp 2)⟩,
          ⟨some 96, .none, true, 3, .move (.tmp 7)⟩,
          ⟨some 97, .none, true, 3, .binOp .sub 3 (.tmp 95) (.tmp 96) 3⟩,
          ⟨some 98, .none, true, 4, .binOp .geq 3 (.tmp 97) (.const (.int .i64 2)) 3⟩])
      (.keep [0, 1, 2, 7, 8, 98]
      (.cond (.tmp 98)
        (.seq
          (.region [⟨some 99, .none, true, 3, .move (.tmp 7)⟩,
            ⟨some 100, .none, true, 3, .binOp .add 3 (.tmp 99) (.const (.int .i64 1)) 3⟩,
            ⟨some 10, .none, true, 3, .assign (.tmp 100)⟩])
        (.keep [0, 1, 2, 7, 8, 10]
        (.block 6
          (.loop [0, 1, 2, 7, 8, 10] rc_slices_partialInsertionSortOrdered_intl2))))
        .skip)))))))))))
  (.keep [0, 1, 2, 7, 8]
  (.region [⟨some 15, .none, true, 3, .move (.tmp 8)⟩,
    ⟨some 16, .none, true, 3, .binOp .add 3 (.tmp 15) (.const (.int .i64 1)) 3⟩,
    ⟨some 8, .none, true, 3, .assign (.tmp 16)⟩]))))
def rc_slices_partialInsertionSortOrdered_int : RCode :=
  (.seq
    (.region [⟨some 6, .none, true, 4, .assign (.const (.bool false))⟩])
  (.keep [0, 1, 2]
  (.seq
    (.region [⟨some 11, .none, true, 3, .move (.tmp 1)⟩,
      ⟨some 12, .none, true, 3, .binOp .add 3 (.tmp 11) (.const (.int .i64 1)) 3⟩,
      ⟨some 7, .none, true, 3, .assign (.tmp 12)⟩])
  (.keep [0, 1, 2, 7]
  (.seq
    (.seq
      (.region [⟨some 8, .none, true, 3, .assign (.const (.int .i64 0))⟩])
    (.keep [0, 1, 2, 7, 8]
    (.block 0
      (.loop [0, 1, 2, 7, 8] rc_slices_partialInsertionSortOrdered_intl3))))
  (.seq
    (.region [⟨some 6, .none, true, 4, .assign (.const (.bool false))⟩])
  .ret))))))
theorem t_slices_partialInsertionSortOrdered_int : FnT Try.prog f_slices_partialInsertionSortOrdered_int rc_slices_partialInsertionSortOrdered_int [.tmp 6] 3 := ⟨⟨[], Try.f120, _, Try.func120, rfl, by kernel_rfl, by kernel_rfl, by kernel_rfl, rfl, by decide⟩, by kernel_rfl⟩
/-- cmp.Less[int] -/
abbrev f_cmp_Less_int : FuncId := 121
def rc_cmp_Less_int : RCode :=
  (.seq
    (.region [⟨some 4, .none, true, 4, .assign (.const (.bool false))⟩])
  (.keep [0, 1]
  (.seq
    (.region [⟨some 5, .none, true, 3, .move (.tmp 0)⟩,
      ⟨some 6, .none, true, 4, .call { callee := .value (.func 134), args := #[.tmp 5], argTypes := #[3] }⟩,
      ⟨some 7, .none, true, 4, .move (.tmp 6)⟩,
      ⟨some 8, .some 7 true, true, 3, .move (.tmp 1)⟩,
      ⟨some 9, .some 7 true, true, 4, .call { callee := .value (.func 134), args := #[.tmp 8], argTypes := #[3] }⟩,
      ⟨some 10, .some 7 true, true, 4, .unOp .not 4 (.tmp 9)⟩,
      ⟨some 11, .none, true, 4, .pick (.tmp 7) (.tmp 10) (.const (.bool false))⟩,
      ⟨some 12, .none, true, 4, .move (.tmp 11)⟩,
      ⟨some 13, .some 12 false, true, 3, .move (.tmp 0)⟩,
      ⟨some 14, .some 12 false, true, 3, .move (.tmp 1)⟩,
      ⟨some 15, .some 12 false, true, 4, .binOp .lss 3 (.tmp 13) (.tmp 14) 3⟩,
      ⟨some 16, .none, true, 4, .pick (.tmp 12) (.const (.bool true)) (.tmp 15)⟩,
      ⟨some 4, .none, true, 4, .assign (.tmp 16)⟩])
  .ret)))
theorem t_cmp_Less_int : FnT Try.prog f_cmp_Less_int rc_cmp_Less_int [.tmp 4] 2 := ⟨⟨[], Try.f121, _, Try.func121, rfl, by kernel_rfl, by kernel_rfl, by kernel_rfl, rfl, by decide⟩, by kernel_rfl⟩
/-- slices.partitionEqualOrdered[int] -/
abbrev f_slices_partitionEqualOrdered_int : FuncId := 122
def rc_slices_partitionEqualOrdered_intl0 : RCode :=
  (.seq
    (.seq
      (.region [⟨some 29, .none, true, 3, .move (.tmp 9)⟩,
        ⟨some 30, .none, true, 3, .move (.tmp 10)⟩,
        ⟨some 31, .none, true, 4, .binOp .leq 3 (.tmp 29) (.tmp 30) 3⟩,
        ⟨some 32, .none, true, 4, .move (.tmp 31)⟩,
        ⟨some 33, .some 32 true, false, 35, .move (.tmp 0)⟩,
        ⟨some 34, .some 32 true, false, 3, .move (.tmp 1)⟩,
        ⟨some 35, .some 32 true, false, 0, .indexAddr 35 (.tmp 33) (.tmp 34)⟩,
        ⟨some 36, .some 32 true, false, 3, .load 3 (.tmp 35)⟩,
        ⟨some 37, .some 32 true, false, 35, .move (.tmp 0)⟩,
        ⟨some 38, .some 32 true, false, 3, .move (.tmp 9)⟩,
        ⟨some 39, .some 32 true, false, 0, .indexAddr 35 (.tmp 37) (.tmp 38)⟩,
        ⟨some 40, .some 32 true, false, 3, .load 3 (.tmp 39)⟩,
        ⟨some 41, .some 32 true, true, 4, .call { callee := .value (.func 121), args := #[.tmp 36, .tmp 40], argTypes := #[3, 3] }⟩,
        ⟨some 42, .some 32 true, true, 4, .unOp .not 4 (.tmp 41)⟩,
        ⟨some 43, .none, true, 4, .pick (.tmp 32) (.tmp 42) (.const (.bool false))⟩])
    (.keep [0, 1, 9, 10, 43]
    (.cond (.tmp 43)
      .skip
      (.exit 2))))
  (.block 3
    (.region [⟨some 44, .none, true, 3, .move (.tmp 9)⟩,
      ⟨some 45, .none, true, 3, .binOp .add 3 (.tmp 44) (.const (.int .i64 1)) 3⟩,
      ⟨some 9, .none, true, 3, .assign (.tmp 45)⟩])))
def rc_slices_partitionEqualOrdered_intl1 : RCode :=
  (.seq
    (.seq
      (.region [⟨some 46, .none, true, 3, .move (.tmp 9)⟩,
        ⟨some 47, .none, true, 3, .move (.tmp 10)⟩,
        ⟨some 48, .none, true, 4, .binOp .leq 3 (.tmp 46) (.tmp 47) 3⟩,
        ⟨some 49, .none, true, 4, .move (.tmp 48)⟩,
        ⟨some 50, .some 49 true, false, 35, .move (.tmp 0)⟩,
        ⟨some 51, .some 49 true, false, 3, .move (.tmp 1)⟩,
        ⟨some 52, .some 49 true, false, 0, .indexAddr 35 (.tmp 50) (.tmp 51)⟩,
        ⟨some 53, .some 49 true, false, 3, .load 3 (.tmp 52)⟩,
        ⟨some 54, .some 49 true, false, 35, .move (.tmp 0)⟩,
        ⟨some 55, .some 49 true, false, 3, .move (.tmp 10)⟩,
        ⟨some 56, .some 49 true, false, 0, .indexAddr 35 (.tmp 54) (.tmp 55)⟩,
        ⟨some 57, .some 49 true, false, 3, .load 3 (.tmp 56)⟩,
        ⟨some 58, .some 49 true, true, 4, .call { callee := .value (.func 121), args := #[.tmp 53, .tmp 57], argTypes := #[3, 3] }⟩,
        ⟨some 59, .none, true, 4, .pick (.tmp 49) (.tmp 58) (.const (.bool false))⟩])
    (.keep [0, 1, 9, 10, 59]
    (.cond (.tmp 59)
      .skip
      (.exit 4))))
  (.block 5
    (.region [⟨some 60, .none, true, 3, .move (.tmp 10)⟩,
      ⟨some 61, .none, true, 3, .binOp .sub 3 (.tmp 60) (.const (.int .i64 1)) 3⟩,
      ⟨some 10, .none, true, 3, .assign (.tmp 61)⟩])))
def rc_slices_partitionEqualOrdered_intl2 : RCode :=
  (.block 1
    (.seq
      (.block 2
        (.loop [0, 1, 9, 10] rc_slices_partitionEqualOrdered_intl0))
    (.keep [0, 1, 9, 10]
    (.seq
      (.block 4
        (.loop [0, 1, 9, 10] rc_slices_partitionEqualOrdered_intl1))
    (.keep [0, 1, 9, 10]
    (.seq
      (.seq
        (.region [⟨some 62, .none, true, 3, .move (.tmp 9)⟩,
          ⟨some 63, .none, true, 3, .move (.tmp 10)⟩,
          ⟨some 64, .none, true, 4, .binOp .gtr 3 (.tmp 62) (.tmp 63) 3⟩])
      (.keep [0, 1, 9, 10, 64]
      (.cond (.tmp 64)
        (.exit 0)
        .skip)))
    (.seq
      (.region [⟨some 65, .none, false, 35, .move (.tmp 0)⟩,
        ⟨some 66, .none, false, 3, .move (.tmp 9)⟩,
        ⟨some 67, .none, false, 35, .move (.tmp 0)⟩,
        ⟨some 68, .none, false, 3, .move (.tmp 10)⟩,
        ⟨some 69, .none, false, 35, .move (.tmp 0)⟩,
        ⟨some 70, .none, false, 3, .move (.tmp 10)⟩,
        ⟨some 71, .none, false, 0, .indexAddr 35 (.tmp 69) (.tmp 70)⟩,
        ⟨some 72, .none, false, 3, .load 3 (.tmp 71)⟩,
        ⟨some 73, .none, false, 35, .move (.tmp 0)⟩,
        ⟨some 74, .none, false, 3, .move (.tmp 9)⟩,
        ⟨some 75, .none, false, 0, .indexAddr 35 (.tmp 73) (.tmp 74)⟩,
        ⟨some 76, .none, false, 3, .load 3 (.tmp 75)⟩,
        ⟨some 77, .none, true, 0, .indexAddr 35 (.tmp 65) (.tmp 66)⟩,
        ⟨none, .none, true, 0, .store 3 (.tmp 77) (.tmp 72)⟩,
        ⟨some 78, .none, true, 0, .indexAddr 35 (.tmp 67) (.tmp 68)⟩,
        ⟨none, .none, true, 0, .store 3 (.tmp 78) (.tmp 76)⟩])
    (.keep [0, 1, 9, 10]
    (.seq
      (.region [⟨some 79, .none, true, 3, .move (.tmp 9)⟩,
        ⟨some 80, .none, true, 3, .binOp .add 3 (.tmp 79) (.const (.int .i64 1)) 3⟩,
        ⟨some 9, .none, true, 3, .assign (.tmp 80)⟩])
    (.keep [0, 1, 9, 10]
    (.region [⟨some 81, .none, true, 3, .move (.tmp 10)⟩,
      ⟨some 82, .none, true, 3, .binOp .sub 3 (.tmp 81) (.const (.int .i64 1)) 3⟩,
      ⟨some 10, .none, true, 3, .assign (.tmp 82)⟩])))))))))))
def rc_slices_partitionEqualOrdered_int : RCode :=
  (.seq
    (.region [⟨some 8, .none, true, 3, .assign (.const (.int .i64 0))⟩])
  (.keep [0, 1, 2, 3]
  (.seq
    (.region [⟨some 11, .none, false, 35, .move (.tmp 0)⟩,
      ⟨some 12, .none, false, 3, .move (.tmp 1)⟩,
      ⟨some 13, .none, false, 35, .move (.tmp 0)⟩,
      ⟨some 14, .none, false, 3, .move (.tmp 3)⟩,
      ⟨some 15, .none, false, 35, .move (.tmp 0)⟩,
      ⟨some 16, .none, false, 3, .move (.tmp 3)⟩,
      ⟨some 17, .none, false, 0, .indexAddr 35 (.tmp 15) (.tmp 16)⟩,
      ⟨some 18, .none, false, 3, .load 3 (.tmp 17)⟩,
      ⟨some 19, .none, false, 35, .move (.tmp 0)⟩,
      ⟨some 20, .none, false, 3, .move (.tmp 1)⟩,
      ⟨some 21, .none, false, 0, .indexAddr 35 (.tmp 19) (.tmp 20)⟩,
      ⟨some 22, .none, false, 3, .load 3 (.tmp 21)⟩,
      ⟨some 23, .none, true, 0, .indexAddr 35 (.tmp 11) (.tmp 12)⟩,
      ⟨none, .none, true, 0, .store 3 (.tmp 23) (.tmp 18)⟩,
      ⟨some 24, .none, true, 0, .indexAddr 35 (.tmp 13) (.tmp 14)⟩,
      ⟨none, .none, true, 0, .store 3 (.tmp 24) (.tmp 22)⟩])
  (.keep [0, 1, 2]
  (.seq
    (.region [⟨some 25, .none, true, 3, .move (.tmp 1)⟩,
      ⟨some 26, .none, true, 3, .binOp .add 3 (.tmp 25) (.const (.int .i64 1)) 3⟩,
      ⟨some 27, .none, true, 3, .move (.tmp 2)⟩,
      ⟨some 28, .none, true, 3, .binOp .sub 3 (.tmp 27) (.const (.int .i64 1)) 3⟩,
      ⟨some 9, .none, true, 3, .assign (.tmp 26)⟩,
      ⟨some 10, .none, true, 3, .assign (.tmp 28)⟩])
  (.keep [0, 1, 9, 10]
  (.seq
    (.block 0
      (.loop [0, 1, 9, 10] rc_slices_partitionEqualOrdered_intl2))
  (.keep [9]
  (.seq
    (.region [⟨some 83, .none, true, 3, .move (.tmp 9)⟩,
      ⟨some 8, .none, true, 3, .assign (.tmp 83)⟩])
  .ret)))))))))
theorem t_slices_partitionEqualOrdered_int : FnT Try.prog f_slices_partitionEqualOrdered_int rc_slices_partitionEqualOrdered_int [.tmp 8] 4 := ⟨⟨[], Try.f122, _, Try.func122, rfl, by kernel_rfl, by kernel_rfl, by kernel_rfl, rfl, by decide⟩, by kernel_rfl⟩
/-- slices.partitionOrdered[int] -/
abbrev f_slices_partitionOrdered_int : FuncId := 123
def rc_slices_partitionOrdered_intl0 : RCode :=
  (.seq
    (.seq
      (.region [⟨some 30, .none, true, 3, .move (.tmp 10)⟩,
        ⟨some 31, .none, true, 3, .move (.tmp 11)⟩,
        ⟨some 32, .none, true, 4, .binOp .leq 3 (.tmp 30) (.tmp 31) 3⟩,
        ⟨some 33, .none, true, 4, .move (.tmp 32)⟩,
        ⟨some 34, .some 33 true, false, 35, .move (.tmp 0)⟩,
        ⟨some 35, .some 33 true, false, 3, .move (.tmp 10)⟩,
        ⟨some 36, .some 33 true, false, 0, .indexAddr 35 (.tmp 34) (.tmp 35)⟩,
        ⟨some 37, .some 33 true, false, 3, .load 3 (.tmp 36)⟩,
        ⟨some 38, .some 33 true, false, 35, .move (.tmp 0)⟩,
        ⟨some 39, .some 33 true, false, 3, .move (.tmp 1)⟩,
        ⟨some 40, .some 33 true, false, 0, .indexAddr 35 (.tmp 38) (.tmp 39)⟩,
        ⟨some 41, .some 33 true, false, 3, .load 3 (.tmp 40)⟩,
        ⟨some 42, .some 33 true, true, 4, .call { callee := .value (.func 121), args := #[.tmp 37, .tmp 41], argTypes := #[3, 3] }⟩,
        ⟨some 43, .none, true, 4, .pick (.tmp 33) (.tmp 42) (.const (.bool false))⟩])
    (.keep [0, 1, 10, 11, 43]
    (.cond (.tmp 43)
      .skip
      (.exit 0))))
  (.block 1
    (.region [⟨some 44, .none, true, 3, .move (.tmp 10)⟩,
      ⟨some 45, .none, true, 3, .binOp .add 3 (.tmp 44) (.const (.int .i64 1)) 3⟩,
      ⟨some 10, .none, true, 3, .assign (.tmp 45)⟩])))
def rc_slices_partitionOrdered_intl1 : RCode :=
  (.seq
    (.seq
      (.region [⟨some 46, .none, true, 3, .move (.tmp 10)⟩,
        ⟨some 47, .none, true, 3, .move (.tmp 11)⟩,
        ⟨some 48, .none, true, 4, .binOp .leq 3 (.tmp 46) (.tmp 47) 3⟩,
        ⟨some 49, .none, true, 4, .move (.tmp 48)⟩,
        ⟨some 50, .some 49 true, false, 35, .move (.tmp 0)⟩,
        ⟨some 51, .some 49 true, false, 3, .move (.tmp 11)⟩,
        ⟨some 52, .some 49 true, false, 0, .indexAddr 35 (.tmp 50) (.tmp 51)⟩,
        ⟨some 53, .some 49 true, false, 3, .load 3 (.tmp 52)⟩,
        ⟨some 54, .some 49 true, false, 35, .move (.tmp 0)⟩,
        ⟨some 55, .some 49 true, false, 3, .move (.tmp 1)⟩,
        ⟨some 56, .some 49 true, false, 0, .indexAddr 35 (.tmp 54) (.tmp 55)⟩,
        ⟨some 57, .some 49 true, false, 3, .load 3 (.tmp 56)⟩,
        ⟨some 58, .some 49 true, true, 4, .call { callee := .value (.func 121), args := #[.tmp 53, .tmp 57], argTypes := #[3, 3] }⟩,
        ⟨some 59, .some 49 true, true, 4, .unOp .not 4 (.tmp 58)⟩,
        ⟨some 60, .none, true, 4, .pick (.tmp 49) (.tmp 59) (.const (.bool false))⟩])
    (.keep [0, 1, 10, 11, 60]
    (.cond (.tmp 60)
      .skip
      (.exit 2))))
  (.block 3
    (.region [⟨some 61, .none, true, 3, .move (.tmp 11)⟩,
      ⟨some 62, .none, true, 3, .binOp .sub 3 (.tmp 61) (.const (.int .i64 1)) 3⟩,
      ⟨some 11, .none, true, 3, .assign (.tmp 62)⟩])))
def rc_slices_partitionOrdered_intl2 : RCode :=
  (.seq
    (.seq
      (.region [⟨some 99, .none, true, 3, .move (.tmp 10)⟩,
        ⟨some 100, .none, true, 3, .move (.tmp 11)⟩,
        ⟨some 101, .none, true, 4, .binOp .leq 3 (.tmp 99) (.tmp 100) 3⟩,
        ⟨some 102, .none, true, 4, .move (.tmp 101)⟩,
        ⟨some 103, .some 102 true, false, 35, .move (.tmp 0)⟩,
        ⟨some 104, .some 102 true, false, 3, .move (.tmp 10)⟩,
        ⟨some 105, .some 102 true, false, 0, .indexAddr 35 (.tmp 103) (.tmp 104)⟩,
        ⟨some 106, .some 102 true, false, 3, .load 3 (.tmp 105)⟩,
        ⟨some 107, .some 102 true, false, 35, .move (.tmp 0)⟩,
        ⟨some 108, .some 102 true, false, 3, .move (.tmp 1)⟩,
        ⟨some 109, .some 102 true, false, 0, .indexAddr 35 (.tmp 107) (.tmp 108)⟩,
        ⟨some 110, .some 102 true, false, 3, .load 3 (.tmp 109)⟩,
        ⟨some 111, .some 102 true, true, 4, .call { callee := .value (.func 121), args := #[.tmp 106, .tmp 110], argTypes := #[3, 3] }⟩,
        ⟨some 112, .none, true, 4, .pick (.tmp 102) (.tmp 111) (.const (.bool false))⟩])
    (.keep [0, 1, 10, 11, 112]
    (.cond (.tmp 112)
      .skip
      (.exit 6))))
  (.block 7
    (.region [⟨some 113, .none, true, 3, .move (.tmp 10)⟩,
      ⟨some 114, .none, true, 3, .binOp .add 3 (.tmp 113) (.const (.int .i64 1)) 3⟩,
      ⟨some 10, .none, true, 3, .assign (.tmp 114)⟩])))
def rc_slices_partitionOrdered_intl3 : RCode :=
  (.seq
    (.seq
      (.region [⟨some 115, .none, true, 3, .move (.tmp 10)⟩,
        ⟨some 116, .none, true, 3, .move (.tmp 11)⟩,
        ⟨some 117, .none, true, 4, .binOp .leq 3 (.tmp 115) (.tmp 116) 3⟩,
        ⟨some 118, .none, true, 4, .move (.tmp 117)⟩,
        ⟨some 119, .some 118 true, false, 35, .move (.tmp 0)⟩,
        ⟨some 120, .some 118 true, false, 3, .move (.tmp 11)⟩,
        ⟨some 121, .some 118 true, false, 0, .indexAddr 35 (.tmp 119) (.tmp 120)⟩,
        ⟨some 122, .some 118 true, false, 3, .load 3 (.tmp 121)⟩,
        ⟨some 123, .some 118 true, false, 35, .move (.tmp 0)⟩,
        ⟨some 124, .some 118 true, false, 3, .move (.tmp 1)⟩,
        ⟨some 125, .some 118 true, false, 0, .indexAddr 35 (.tmp 123) (.tmp 124)⟩,
        ⟨some 126, .some 118 true, false, 3, .load 3 (.tmp 125)⟩,
        ⟨some 127, .some 118 true, true, 4, .call { callee := .value (.func 121), args := #[.tmp 122, .tmp 126], argTypes := #[3, 3] }⟩,
        ⟨some 128, .some 118 true, true, 4, .unOp .not 4 (.tmp 127)⟩,
        ⟨some 129, .none, true, 4, .pick (.tmp 118) (.tmp 128) (.const (.bool false))⟩])
    (.keep [0, 1, 10, 11, 129]
    (.cond (.tmp 129)
      .skip
      (.exit 8))))
  (.block 9
    (.region [⟨some 130, .none, true, 3, .move (.tmp 11)⟩,
      ⟨some 131, .none, true, 3, .binOp .sub 3 (.tmp 130) (.const (.int .i64 1)) 3⟩,
      ⟨some 11, .none, true, 3, .assign (.tmp 131)⟩])))
def rc_slices_partitionOrdered_intl4 : RCode :=
  (.block 5
    (.seq
      (.block 6
        (.loop [0, 1, 10, 11] rc_slices_partitionOrdered_intl2))
    (.keep [0, 1, 10, 11]
    (.seq
      (.block 8
        (.loop [0, 1, 10, 11] rc_slices_partitionOrdered_intl3))
    (.keep [0, 1, 10, 11]
    (.seq
      (.seq
        (.region [⟨some 132, .none, true, 3, .move (.tmp 10)⟩,
          ⟨some 133, .none, true, 3, .move (.tmp 11)⟩,
          ⟨some 134, .none, true, 4, .binOp .gtr 3 (.tmp 132) (.tmp 133) 3⟩])
      (.keep [0, 1, 10, 11, 134]
      (.cond (.tmp 134)
        (.exit 4)
        .skip)))
    (.seq
      (.region [⟨some 135, .none, false, 35, .move (.tmp 0)⟩,
        ⟨some 136, .none, false, 3, .move (.tmp 10)⟩,
        ⟨some 137, .none, false, 35, .move (.tmp 0)⟩,
        ⟨some 138, .none, false, 3, .move (.tmp 11)⟩,
        ⟨some 139, .none, false, 35, .move (.tmp 0)⟩,
        ⟨some 140, .none, false, 3, .move (.tmp 11)⟩,
        ⟨some 141, .none, false, 0, .indexAddr 35 (.tmp 139) (.tmp 140)⟩,
        ⟨some 142, .none, false, 3, .load 3 (.tmp 141)⟩,
        ⟨some 143, .none, false, 35, .move (.tmp 0)⟩,
        ⟨some 144, .none, false, 3, .move (.tmp 10)⟩,
        ⟨some 145, .none, false, 0, .indexAddr 35 (.tmp 143) (.tmp 144)⟩,
        ⟨some 146, .none, false, 3, .load 3 (.tmp 145)⟩,
        ⟨some 147, .none, true, 0, .indexAddr 35 (.tmp 135) (.tmp 136)⟩,
        ⟨none, .none, true, 0, .store 3 (.tmp 147) (.tmp 142)⟩,
        ⟨some 148, .none, true, 0, .indexAddr 35 (.tmp 137) (.tmp 138)⟩,
        ⟨none, .none, true, 0, .store 3 (.tmp 148) (.tmp 146)⟩])
    (.keep [0, 1, 10, 11]
    (.seq
      (.region [⟨some 149, .none, true, 3, .move (.tmp 10)⟩,
        ⟨some 150, .none, true, 3, .binOp .add 3 (.tmp 149) (.const (.int .i64 1)) 3⟩,
        ⟨some 10, .none, true, 3, .assign (.tmp 150)⟩])
    (.keep [0, 1, 10, 11]
    (.region [⟨some 151, .none, true, 3, .move (.tmp 11)⟩,
      ⟨some 152, .none, true, 3, .binOp .sub 3 (.tmp 151) (.const (.int .i64 1)) 3⟩,
      ⟨some 11, .none, true, 3, .assign (.tmp 152)⟩])))))))))))
def rc_slices_partitionOrdered_int : RCode :=
  (.seq
    (.region [⟨some 8, .none, true, 3, .assign (.const (.int .i64 0))⟩,
      ⟨some 9, .none, true, 4, .assign (.const (.bool false))⟩])
  (.keep [0, 1, 2, 3]
  (.seq
    (.region [⟨some 12, .none, false, 35, .move (.tmp 0)⟩,
      ⟨some 13, .none, false, 3, .move (.tmp 1)⟩,
      ⟨some 14, .none, false, 35, .move (.tmp 0)⟩,
      ⟨some 15, .none, false, 3, .move (.tmp 3)⟩,
      ⟨some 16, .none, false, 35, .move (.tmp 0)⟩,
      ⟨some 17, .none, false, 3, .move (.tmp 3)⟩,
      ⟨some 18, .none, false, 0, .indexAddr 35 (.tmp 16) (.tmp 17)⟩,
      ⟨some 19, .none, false, 3, .load 3 (.tmp 18)⟩,
      ⟨some 20, .none, false, 35, .move (.tmp 0)⟩,
      ⟨some 21, .none, false, 3, .move (.tmp 1)⟩,
      ⟨some 22, .none, false, 0, .indexAddr 35 (.tmp 20) (.tmp 21)⟩,
      ⟨some 23, .none, false, 3, .load 3 (.tmp 22)⟩,
      ⟨some 24, .none, true, 0, .indexAddr 35 (.tmp 12) (.tmp 13)⟩,
      ⟨none, .none, true, 0, .store 3 (.tmp 24) (.tmp 19)⟩,
      ⟨some 25, .none, true, 0, .indexAddr 35 (.tmp 14) (.tmp 15)⟩,
      ⟨none, .none, true, 0, .store 3 (.tmp 25) (.tmp 23)⟩])
  (.keep [0, 1, 2]
  (.seq
    (.region [⟨some 26, .none, true, 3, .move (.tmp 1)⟩,
      ⟨some 27, .none, true, 3, .binOp .add 3 (.tmp 26) (.const (.int .i64 1)) 3⟩,
      ⟨some 28, .none, true, 3, .move (.tmp 2)⟩,
      ⟨some 29, .none, true, 3, .binOp .sub 3 (.tmp 28) (.const (.int .i64 1)) 3⟩,
      ⟨some 10, .none, true, 3, .assign (.tmp 27)⟩,
      ⟨some 11, .none, true, 3, .assign (.tmp 29)⟩])
  (.keep [0, 1, 10, 11]
  (.seq
    (.block 0
      (.loop [0, 1, 10, 11] rc_slices_partitionOrdered_intl0))
  (.keep [0, 1, 10, 11]
  (.seq
    (.block 2
      (.loop [0, 1, 10, 11] rc_slices_partitionOrdered_intl1))
  (.keep [0, 1, 10, 11]
  (.seq
    (.seq
      (.region [⟨some 63, .none, true, 3, .move (.tmp 10)⟩,
        ⟨some 64, .none, true, 3, .move (.tmp 11)⟩,
        ⟨some 65, .none, true, 4, .binOp .gtr 3 (.tmp 63) (.tmp 64) 3⟩])
    (.keep [0, 1, 10, 11, 65]
    (.cond (.tmp 65)
      (.seq
        (.region [⟨some 66, .none, false, 35, .move (.tmp 0)⟩,
          ⟨some 67, .none, false, 3, .move (.tmp 11)⟩,
          ⟨some 68, .none, false, 35, .move (.tmp 0)⟩,
          ⟨some 69, .none, false, 3, .move (.tmp 1)⟩,
          ⟨some 70, .none, false, 35, .move (.tmp 0)⟩,
          ⟨some 71, .none, false, 3, .move (.tmp 1)⟩,
          ⟨some 72, .none, false, 0, .indexAddr 35 (.tmp 70) (.tmp 71)⟩,
          ⟨some 73, .none, false, 3, .load 3 (.tmp 72)⟩,
          ⟨some 74, .none, false, 35, .move (.tmp 0)⟩,
          ⟨some 75, .none, false, 3, .move (.tmp 11)⟩,
          ⟨some 76, .none, false, 0, .indexAddr 35 (.tmp 74) (.tmp 75)⟩,
          ⟨some 77, .none, false, 3, .load 3 (.tmp 76)⟩,
          ⟨some 78, .none, true, 0, .indexAddr 35 (.tmp 66) (.tmp 67)⟩,
          ⟨none, .none, true, 0, .store 3 (.tmp 78) (.tmp 73)⟩,
          ⟨some 79, .none, true, 0, .indexAddr 35 (.tmp 68) (.tmp 69)⟩,
          ⟨none, .none, true, 0, .store 3 (.tmp 79) (.tmp 77)⟩])
      (.keep [11]
      (.seq
        (.region [⟨some 80, .none, true, 3, .move (.tmp 11)⟩,
          ⟨some 8, .none, true, 3, .assign (.tmp 80)⟩,
          ⟨some 9, .none, true, 4, .assign (.const (.bool true))⟩])
      .ret)))
      .skip)))
  (.seq
    (.region [⟨some 81, .none, false, 35, .move (.tmp 0)⟩,
      ⟨some 82, .none, false, 3, .move (.tmp 10)⟩,
      ⟨some 83, .none, false, 35, .move (.tmp 0)⟩,
      ⟨some 84, .none, false, 3, .move (.tmp 11)⟩,
      ⟨some 85, .none, false, 35, .move (.tmp 0)⟩,
      ⟨some 86, .none, false, 3, .move (.tmp 11)⟩,
      ⟨some 87, .none, false, 0, .indexAddr 35 (.tmp 85) (.tmp 86)⟩,
      ⟨some 88, .none, false, 3, .load 3 (.tmp 87)⟩,
      ⟨some 89, .none, false, 35, .move (.tmp 0)⟩,
      ⟨some 90, .none, false, 3, .move (.tmp 10)⟩,
      ⟨some 91, .none, false, 0, .indexAddr 35 (.tmp 89) (.tmp 90)⟩,
      ⟨some 92, .none, false, 3, .load 3 (.tmp 91)⟩,
      ⟨some 93, .none, true, 0, .indexAddr 35 (.tmp 81) (.tmp 82)⟩,
      ⟨none, .none, true, 0, .store 3 (.tmp 93) (.tmp 88)⟩,
      ⟨some 94, .none, true, 0, .indexAddr 35 (.tmp 83) (.tmp 84)⟩,
      ⟨none, .none, true, 0, .store 3 (.tmp 94) (.tmp 92)⟩])
  (.keep [0, 1, 10, 11]
  (.seq
    (.region [⟨some 95, .none, true, 3, .move (.tmp 10)⟩,
      ⟨some 96, .none, true, 3, .binOp .add 3 (.tmp 95) (.const (.int .i64 1)) 3⟩,
      ⟨some 10, .none, true, 3, .assign (.tmp 96)⟩])
  (.keep [0, 1, 10, 11]
  (.seq
    (.region [⟨some 97, .none, true, 3, .move (.tmp 11)⟩,
      ⟨some 98, .none, true, 3, .binOp .sub 3 (.tmp 97) (.const (.int .i64 1)) 3⟩,
      ⟨some 11, .none, true, 3, .assign (.tmp 98)⟩])
  (.keep [0, 1, 10, 11]
  (.seq
    (.block 4
      (.loop [0, 1, 10, 11] rc_slices_partitionOrdered_intl4))
  (.keep [0, 1, 11]
  (.seq
    (.region [⟨some 153, .none, false, 35, .move (.tmp 0)⟩,
      ⟨some 154, .none, false, 3, .move (.tmp 11)⟩,
      ⟨some 155, .none, false, 35, .move (.tmp 0)⟩,
      ⟨some 156, .none, false, 3, .move (.tmp 1)⟩,
      ⟨some 157, .none, false, 35, .move (.tmp 0)⟩,
      ⟨some 158, .none, false, 3, .move (.tmp 1)⟩,
      ⟨some 159, .none, false, 0, .indexAddr 35 (.tmp 157) (.tmp 158)⟩,
      ⟨some 160, .none, false, 3, .load 3 (.tmp 159)⟩,
      ⟨some 161, .none, false, 35, .move (.tmp 0)⟩,
      ⟨some 162, .none, false, 3, .move (.tmp 11)⟩,
      ⟨some 163, .none, false, 0, .indexAddr 35 (.tmp 161) (.tmp 162)⟩,
      ⟨some 164, .none, false, 3, .load 3 (.tmp 163)⟩,
      ⟨some 165, .none, true, 0, .indexAddr 35 (.tmp 153) (.tmp 154)⟩,
      ⟨none, .none, true, 0, .store 3 (.tmp 165) (.tmp 160)⟩,
      ⟨some 166, .none, true, 0, .indexAddr 35 (.tmp 155) (.tmp 156)⟩,
      ⟨none, .none, true, 0, .store 3 (.tmp 166) (.tmp 164)⟩])
  (.keep [11]
  (.seq
    (.region [⟨some 167, .none, true, 3, .move (.tmp 11)⟩,
      ⟨some 8, .none, true, 3, .assign (.tmp 167)⟩,
      ⟨some 9, .none, true, 4, .assign (.const (.bool false))⟩])
  .ret))))))))))))))))))))))
theorem t_slices_partitionOrdered_int : FnT Try.prog f_slices_partitionOrdered_int rc_slices_partitionOrdered_int [.tmp 8, .tmp 9] 4 := ⟨⟨[], Try.f123, _, Try.func123, rfl, by kernel_rfl, by kernel_rfl, by kernel_rfl, rfl, by decide⟩, by kernel_rfl⟩
/-- math/bits.Len32 -/
abbrev f_math_bits_Len32 : FuncId := 124
def rc_math_bits_Len32 : RCode :=
  (.seq
    (.region [⟨some 2, .none, true, 3, .assign (.const (.int .i64 0))⟩])
  (.keep [0, 2]
  (.seq
    (.seq
      (.region [⟨some 3, .none, true, 144, .move (.tmp 0)⟩,
        ⟨some 4, .none, true, 4, .binOp .geq 144 (.tmp 3) (.const (.int .u32 65536)) 144⟩])
    (.keep [0, 2, 4]
    (.cond (.tmp 4)
      (.seq
        (.region [⟨some 5, .none, true, 144, .move (.tmp 0)⟩,
          ⟨some 6, .none, true, 144, .binOp .shr 144 (.tmp 5) (.const (.int .u64 16)) 47⟩,
          ⟨some 0, .none, true, 144, .assign (.tmp 6)⟩])
      (.keep [0]
      (.region [⟨some 2, .none, true, 3, .assign (.const (.int .i64 16))⟩])))
      .skip)))
  (.seq
    (.seq
      (.region [⟨some 7, .none, true, 144, .move (.tmp 0)⟩,
        ⟨some 8, .none, true, 4, .binOp .geq 144 (.tmp 7) (.const (.int .u32 256)) 144⟩])
    (.keep [0, 2, 8]
    (.cond (.tmp 8)
      (.seq
        (.region [⟨some 9, .none, true, 144, .move (.tmp 0)⟩,
          ⟨some 10, .none, true, 144, .binOp .shr 144 (.tmp 9) (.const (.int .u64 8)) 47⟩,
          ⟨some 0, .none, true, 144, .assign (.tmp 10)⟩])
      (.keep [0, 2]
      (.region [⟨some 11, .none, true, 3, .move (.tmp 2)⟩,
        ⟨some 12, .none, true, 3, .binOp .add 3 (.tmp 11) (.const (.int .i64 8)) 3⟩,
        ⟨some 2, .none, true, 3, .assign (.tmp 12)⟩])))
      .skip)))
  (.seq
    (.region [⟨some 13, .none, true, 3, .move (.tmp 2)⟩,
      ⟨some 14, .none, true, 144, .move (.tmp 0)⟩,
      ⟨some 15, .none, true, 5, .convert 144 5 (.tmp 14)⟩,
      ⟨some 16, .none, true, 5, .index 9 (.const (.string { data := #[0, 1, 2, 2, 3, 3, 3, 3, 4, 4, 4, 4, 4, 4, 4, 4, 5, 5, 5, 5, 5, 5, 5, 5, 5, 5, 5, 5, 5, 5, 5, 5, 6, 6, 6, 6, 6, 6, 6, 6, 6, 6, 6, 6, 6, 6, 6, 6, 6, 6, 6, 6, 6, 6, 6, 6, 6, 6, 6, 6, 6, 6, 6, 6, 7, 7, 7, 7, 7, 7, 7, 7, 7, 7, 7, 7, 7, 7, 7, 7, 7, 7, 7, 7, 7, 7, 7, 7, 7, 7, 7, 7, 7, 7, 7, 7, 7, 7, 7, 7, 7, 7, 7, 7, 7, 7, 7, 7, 7, 7, 7, 7, 7, 7, 7, 7, 7, 7, 7, 7, 7, 7, 7, 7, 7, 7, 7, 7, 8, 8, 8, 8, 8, 8, 8, 8, 8, 8, 8, 8, 8, 8, 8, 8, 8, 8, 8, 8, 8, 8, 8, 8, 8, 8, 8, 8, 8, 8, 8, 8, 8, 8, 8, 8, 8, 8, 8, 8, 8, 8, 8, 8, 8, 8, 8, 8, 8, 8, 8, 8, 8, 8, 8, 8, 8, 8, 8, 8, 8, 8, 8, 8, 8, 8, 8, 8, 8, 8, 8, 8, 8, 8, 8, 8, 8, 8, 8, 8, 8, 8, 8, 8, 8, 8, 8, 8, 8, 8, 8, 8, 8, 8, 8, 8, 8, 8, 8, 8, 8, 8, 8, 8, 8, 8, 8, 8, 8, 8, 8, 8, 8, 8, 8, 8, 8, 8, 8, 8, 8, 8, 8, 8, 8, 8, 8, 8] })) (.tmp 15)⟩,
      ⟨some 17, .none, true, 3, .convert 5 3 (.tmp 16)⟩,
      ⟨some 18, .none, true, 3, .binOp .add 3 (.tmp 13) (.tmp 17) 3⟩,
      ⟨some 2, .none, true, 3, .assign (.tmp 18)⟩])
  .ret)))))
theorem t_math_bits_Len32 : FnT Try.prog f_math_bits_Len32 rc_math_bits_Len32 [.tmp 2] 1 := ⟨⟨[], Try.f124, _, Try.func124, rfl, by kernel_rfl, by kernel_rfl, by kernel_rfl, rfl, by decide⟩, by kernel_rfl⟩
/-- math/bits.Len64 -/
abbrev f_math_bits_Len64 : FuncId := 125
def rc_math_bits_Len64 : RCode :=
  (.seq
    (.region [⟨some 2, .none, true, 3, .assign (.const (.int .i64 0))⟩])
  (.keep [0, 2]
  (.seq
    (.seq
      (.region [⟨some 3, .none, true, 68, .move (.tmp 0)⟩,
        ⟨some 4, .none, true, 4, .binOp .geq 68 (.tmp 3) (.const (.int .u64 4294967296)) 68⟩])
    (.keep [0, 2, 4]
    (.cond (.tmp 4)
      (.seq
        (.region [⟨some 5, .none, true, 68, .move (.tmp 0)⟩,
          ⟨some 6, .none, true, 68, .binOp .shr 68 (.tmp 5) (.const (.int .u64 32)) 47⟩,
          ⟨some 0, .none, true, 68, .assign (.tmp 6)⟩])
      (.keep [0]
      (.region [⟨some 2, .none, true, 3, .assign (.const (.int .i64 32))⟩])))
      .skip)))
  (.seq
    (.seq
      (.region [⟨some 7, .none, true, 68, .move (.tmp 0)⟩,
        ⟨some 8, .none, true, 4, .binOp .geq 68 (.tmp 7) (.const (.int .u64 65536)) 68⟩])
    (.keep [0, 2, 8]
    (.cond (.tmp 8)
      (.seq
        (.region [⟨some 9, .none, true, 68, .move (.tmp 0)⟩,
          ⟨some 10, .none, true, 68, .binOp .shr 68 (.tmp 9) (.const (.int .u64 16)) 47⟩,
          ⟨some 0, .none, true, 68, .assign (.tmp 10)⟩])
      (.keep [0, 2]
      (.region [⟨some 11, .none, true, 3, .move (.tmp 2)⟩,
        ⟨some 12, .none, true, 3, .binOp .add 3 (.tmp 11) (.const (.int .i64 16)) 3⟩,
        ⟨some 2, .none, true, 3, .assign (.tmp 12)⟩])))
      .skip)))
  (.seq
    (.seq
      (.region [⟨some 13, .none, true, 68, .move (.tmp 0)⟩,
        ⟨some 14, .none, true, 4, .binOp .geq 68 (.tmp 13) (.const (.int .u64 256)) 68⟩])
    (.keep [0, 2, 14]
    (.cond (.tmp 14)
      (.seq
        (.region [⟨some 15, .none, true, 68, .move (.tmp 0)⟩,
          ⟨some 16, .none, true, 68, .binOp .shr 68 (.tmp 15) (.const (.int .u64 8)) 47⟩,
          ⟨some 0, .none, true, 68, .assign (.tmp 16)⟩])
      (.keep [0, 2]
      (.region [⟨some 17, .none, true, 3, .move (.tmp 2)⟩,
        ⟨some 18, .none, true, 3, .binOp .add 3 (.tmp 17) (.const (.int .i64 8)) 3⟩,
        ⟨some 2, .none, true, 3, .assign (.tmp 18)⟩])))
      .skip)))
  (.seq
    (.region [⟨some 19, .none, true, 3, .move (.tmp 2)⟩,
      ⟨some 20, .none, true, 68, .move (.tmp 0)⟩,
      ⟨some 21, .none, true, 5, .convert 68 5 (.tmp 20)⟩,
      ⟨some 22, .none, true, 5, .index 9 (.const (.string { data := #[0, 1, 2, 2, 3, 3, 3, 3, 4, 4, 4, 4, 4, 4, 4, 4, 5, 5, 5, 5, 5, 5, 5, 5, 5, 5, 5, 5, 5, 5, 5, 5, 6, 6, 6, 6, 6, 6, 6, 6, 6, 6, 6, 6, 6, 6, 6, 6, 6, 6, 6, 6, 6, 6, 6, 6, 6, 6, 6, 6, 6, 6, 6, 6, 7, 7, 7, 7, 7, 7, 7, 7, 7, 7, 7, 7, 7, 7, 7, 7, 7, 7, 7, 7, 7, 7, 7, 7, 7, 7, 7, 7, 7, 7, 7, 7, 7, 7, 7, 7, 7, 7, 7, 7, 7, 7, 7, 7, 7, 7, 7, 7, 7, 7, 7, 7, 7, 7, 7, 7, 7, 7, 7, 7, 7, 7, 7, 7, 8, 8, 8, 8, 8, 8, 8, 8, 8, 8, 8, 8, 8, 8, 8, 8, 8, 8, 8, 8, 8, 8, 8, 8, 8, 8, 8, 8, 8, 8, 8, 8, 8, 8, 8, 8, 8, 8, 8, 8, 8, 8, 8, 8, 8, 8, 8, 8, 8, 8, 8, 8, 8, 8, 8, 8, 8, 8, 8, 8, 8, 8, 8, 8, 8, 8, 8, 8, 8, 8, 8, 8, 8, 8, 8, 8, 8, 8, 8, 8, 8, 8, 8, 8, 8, 8, 8, 8, 8, 8, 8, 8, 8, 8, 8, 8, 8, 8, 8, 8, 8, 8, 8, 8, 8, 8, 8, 8, 8, 8, 8, 8, 8, 8, 8, 8, 8, 8, 8, 8, 8, 8, 8, 8, 8, 8, 8, 8] })) (.tmp 21)⟩,
      ⟨some 23, .none, true, 3, .convert 5 3 (.tmp 22)⟩,
      ⟨some 24, .none, true, 3, .binOp .add 3 (.tmp 19) (.tmp 23) 3⟩,
      ⟨some 2, .none, true, 3, .assign (.tmp 24)⟩])
  .ret))))))
theorem t_math_bits_Len64 : FnT Try.prog f_math_bits_Len64 rc_math_bits_Len64 [.tmp 2] 1 := ⟨⟨[], Try.f125, _, Try.func125, rfl, by kernel_rfl, by kernel_rfl, by kernel_rfl, rfl, by decide⟩, by kernel_rfl⟩
/-- reeve/right.of -/
abbrev f_right_of : FuncId := 126
def rc_right_of : RCode :=
  (.seq
    (.region [⟨some 2, .none, true, 3, .assign (.const (.int .i64 0))⟩])
  (.keep [0]
  (.seq
    (.seq
      (.region [⟨some 3, .none, true, 3, .move (.tmp 0)⟩,
        ⟨some 4, .none, true, 4, .call { callee := .value (.func 108), args := #[.tmp 3], argTypes := #[3] }⟩,
        ⟨some 5, .none, true, 4, .unOp .not 4 (.tmp 4)⟩])
    (.keep [0, 5]
    (.cond (.tmp 5)
      (.seq
        (.region [⟨some 2, .none, true, 3, .assign (.const (.int .i64 0))⟩])
      .ret)
      .skip)))
  (.seq
    (.region [⟨some 6, .none, true, 3, .move (.tmp 0)⟩,
      ⟨some 2, .none, true, 3, .assign (.tmp 6)⟩])
  .ret))))
theorem t_right_of : FnT Try.prog f_right_of rc_right_of [.tmp 2] 1 := ⟨⟨[], Try.f126, _, Try.func126, rfl, by kernel_rfl, by kernel_rfl, by kernel_rfl, rfl, by decide⟩, by kernel_rfl⟩
/-- slices.siftDownOrdered[int] -/
abbrev f_slices_siftDownOrdered_int : FuncId := 129
def rc_slices_siftDownOrdered_intl0 : RCode :=
  (.block 1
    (.seq
      (.region [⟨some 11, .none, true, 3, .move (.tmp 8)⟩,
        ⟨some 12, .none, true, 3, .binOp .mul 3 (.const (.int .i64 2)) (.tmp 11) 3⟩,
        ⟨some 13, .none, true, 3, .binOp .add 3 (.tmp 12) (.const (.int .i64 1)) 3⟩,
        ⟨some 9, .none, true, 3, .assign (.tmp 13)⟩])
    (.keep [0, 2, 3, 8, 9]
    (.seq
      (.seq
        (.region [⟨some 14, .none, true, 3, .move (.tmp 9)⟩,
          ⟨some 15, .none, true, 3, .move (.tmp 2)⟩,
          ⟨some 16, .none, true, 4, .binOp .geq 3 (.tmp 14) (.tmp 15) 3⟩])
      (.keep [0, 2, 3, 8, 9, 16]
      (.cond (.tmp 16)
        (.exit 0)
        .skip)))
    (.seq
      (.seq
        (.region [⟨some 17, .none, true, 3, .move (.tmp 9)⟩,
          ⟨some 18, .none, true, 3, .binOp .add 3 (.tmp 17) (.const (.int .i64 1)) 3⟩,
          ⟨some 19, .none, true, 3, .move (.tmp 2)⟩,
          ⟨some 20, .none, true, 4, .binOp .lss 3 (.tmp 18) (.tmp 19) 3⟩,
          ⟨some 21, .none, true, 4, .move (.tmp 20)⟩,
          ⟨some 22, .some 21 true, false, 35, .move (.tmp 0)⟩,
          ⟨some 23, .some 21 true, false, 3, .move (.tmp 3)⟩,
          ⟨some 24, .some 21 true, false, 3, .move (.tmp 9)⟩,
          ⟨some 25, .some 21 true, false, 3, .binOp .add 3 (.tmp 23) (.tmp 24) 3⟩,
          ⟨some 26, .some 21 true, false, 0, .indexAddr 35 (.tmp 22) (.tmp 25)⟩,
          ⟨some 27, .some 21 true, false, 3, .load 3 (.tmp 26)⟩,
          ⟨some 28, .some 21 true, false, 35, .move (.tmp 0)⟩,
          ⟨some 29, .some 21 true, false, 3, .move (.tmp 3)⟩,
          ⟨some 30, .some 21 true, false, 3, .move (.tmp 9)⟩,
          ⟨some 31, .some 21 true, false, 3, .binOp .add 3 (.tmp 29) (.tmp 30) 3⟩,
          ⟨some 32, .some 21 true, false, 3, .binOp .add 3 (.tmp 31) (.const (.int .i64 1)) 3⟩,
          ⟨some 33, .some 21 true, false, 0, .indexAddr 35 (.tmp 28) (.tmp 32)⟩,
          ⟨some 34, .some 21 true, false, 3, .load 3 (.tmp 33)⟩,
          ⟨some 35, .some 21 true, true, 4, .call { callee := .value (.func 121), args := #[.tmp 27, .tmp 34], argTypes := #[3, 3] }⟩,
          ⟨some 36, .none, true, 4, .pick (.tmp 21) (.tmp 35) (.const (.bool false))⟩])
      (.keep [0, 2, 3, 8, 9, 36]
      (.cond (.tmp 36)
        (.region [⟨some 37, .none, true, 3, .move (.tmp 9)⟩,
          ⟨some 38, .none, true, 3, .binOp .add 3 (.tmp 37) (.const (.int .i64 1)) 3⟩,
          ⟨some 9, .none, true, 3, .assign (.tmp 38)⟩])
        .skip)))
    (.seq
      (.seq
        (.region [⟨some 39, .none, false, 35, .move (.tmp 0)⟩,
          ⟨some 40, .none, false, 3, .move (.tmp 3)⟩,
          ⟨some 41, .none, false, 3, .move (.tmp 8)⟩,
          ⟨some 42, .none, false, 3, .binOp .add 3 (.tmp 40) (.tmp 41) 3⟩,
          ⟨some 43, .none, false, 0, .indexAddr 35 (.tmp 39) (.tmp 42)⟩,
          ⟨some 44, .none, false, 3, .load 3 (.tmp 43)⟩,
          ⟨some 45, .none, false, 35, .move (.tmp 0)⟩,
          ⟨some 46, .none, false, 3, .move (.tmp 3)⟩,
          ⟨some 47, .none, false, 3, .move (.tmp 9)⟩,
          ⟨some 48, .none, false, 3, .binOp .add 3 (.tmp 46) (.tmp 47) 3⟩,
          ⟨some 49, .none, false, 0, .indexAddr 35 (.tmp 45) (.tmp 48)⟩,
          ⟨some 50, .none, false, 3, .load 3 (.tmp 49)⟩,
          ⟨some 51, .none, true, 4, .call { callee := .value (.func 121), args := #[.tmp 44, .tmp 50], argTypes := #[3, 3] }⟩,
          ⟨some 52, .none, true, 4, .unOp .not 4 (.tmp 51)⟩])
      (.keep [0, 2, 3, 8, 9, 52]
      (.cond (.tmp 52)
        .ret
        .skip)))
    (.seq
      (.region [⟨some 53, .none, false, 35, .move (.tmp 0)⟩,
        ⟨some 54, .none, false, 3, .move (.tmp 3)⟩,
        ⟨some 55, .none, false, 3, .move (.tmp 8)⟩,
        ⟨some 56, .none, false, 3, .binOp .add 3 (.tmp 54) (.tmp 55) 3⟩,
        ⟨some 57, .none, false, 35, .move (.tmp 0)⟩,
        ⟨some 58, .none, false, 3, .move (.tmp 3)⟩,
        ⟨some 59, .none, false, 3, .move (.tmp 9)⟩,
        ⟨some 60, .none, false, 3, .binOp .add 3 (.tmp 58) (.tmp 59) 3⟩,
        ⟨some 61, .none, false, 35, .move (.tmp 0)⟩,
        ⟨some 62, .none, false, 3, .move (.tmp 3)⟩,
        ⟨some 63, .none, false, 3, .move (.tmp 9)⟩,
        ⟨some 64, .none, false, 3, .binOp .add 3 (.tmp 62) (.tmp 63) 3⟩,
        ⟨some 65, .none, false, 0, .indexAddr 35 (.tmp 61) (.tmp 64)⟩,
        ⟨some 66, .none, false, 3, .load 3 (.tmp 65)⟩,
        ⟨some 67, .none, false, 35, .move (.tmp 0)⟩,
        ⟨some 68, .none, false, 3, .move (.tmp 3)⟩,
        ⟨some 69, .none, false, 3, .move (.tmp 8)⟩,
        ⟨some 70, .none, false, 3, .binOp .add 3 (.tmp 68) (.tmp 69) 3⟩,
        ⟨some 71, .none, false, 0, .indexAddr 35 (.tmp 67) (.tmp 70)⟩,
        ⟨some 72, .none, false, 3, .load 3 (.tmp 71)⟩,
        ⟨some 73, .none, true, 0, .indexAddr 35 (.tmp 53) (.tmp 56)⟩,
        ⟨none, .none, true, 0, .store 3 (.tmp 73) (.tmp 66)⟩,
        ⟨some 74, .none, true, 0, .indexAddr 35 (.tmp 57) (.tmp 60)⟩,
        ⟨none, .none, true, 0, .store 3 (.tmp 74) (.tmp 72)⟩])
    (.keep [0, 2, 3, 9]
    (.region [⟨some 75, .none, true, 3, .move (.tmp 9)⟩,
      ⟨some 8, .none, true, 3, .assign (.tmp 75)⟩])))))))))
def rc_slices_siftDownOrdered_int : RCode :=
  (.seq
    (.region [⟨some 10, .none, true, 3, .move (.tmp 1)⟩,
      ⟨some 8, .none, true, 3, .assign (.tmp 10)⟩])
  (.keep [0, 2, 3, 8]
  (.block 0
    (.loop [0, 2, 3, 8] rc_slices_siftDownOrdered_intl0))))
theorem t_slices_siftDownOrdered_int : FnT Try.prog f_slices_siftDownOrdered_int rc_slices_siftDownOrdered_int [] 4 := ⟨⟨[], Try.f129, _, Try.func129, rfl, by kernel_rfl, by kernel_rfl, by kernel_rfl, rfl, by decide⟩, by kernel_rfl⟩
/-- slices.nextPowerOfTwo -/
abbrev f_slices_nextPowerOfTwo : FuncId := 130
def rc_slices_nextPowerOfTwo : RCode :=
  (.seq
    (.region [⟨some 2, .none, true, 47, .assign (.const (.int .u64 0))⟩])
  (.keep [0]
  (.seq
    (.region [⟨some 3, .none, true, 3, .move (.tmp 0)⟩,
      ⟨some 4, .none, true, 47, .convert 3 47 (.tmp 3)⟩,
      ⟨some 5, .none, true, 3, .call { callee := .value (.func 106), args := #[.tmp 4], argTypes := #[47] }⟩,
      ⟨some 6, .none, true, 47, .binOp .shl 47 (.const (.int .u64 1)) (.tmp 5) 3⟩,
      ⟨some 2, .none, true, 47, .assign (.tmp 6)⟩])
  .ret)))
theorem t_slices_nextPowerOfTwo : FnT Try.prog f_slices_nextPowerOfTwo rc_slices_nextPowerOfTwo [.tmp 2] 1 := ⟨⟨[], Try.f130, _, Try.func130, rfl, by kernel_rfl, by kernel_rfl, by kernel_rfl, rfl, by decide⟩, by kernel_rfl⟩
/-- (*slices.xorshift).Next -/
abbrev f_P_slices_xorshift_Next : FuncId := 131
def rc_P_slices_xorshift_Next : RCode :=
  (.seq
    (.region [⟨some 2, .none, true, 68, .assign (.const (.int .u64 0))⟩])
  (.keep [0]
  (.seq
    (.region [⟨some 3, .none, false, 152, .move (.tmp 0)⟩,
      ⟨some 4, .none, false, 0, .nilCheck (.tmp 3)⟩,
      ⟨some 5, .none, false, 146, .load 146 (.tmp 4)⟩,
      ⟨some 6, .none, false, 152, .move (.tmp 0)⟩,
      ⟨some 7, .none, false, 0, .nilCheck (.tmp 6)⟩,
      ⟨some 8, .none, false, 146, .load 146 (.tmp 7)⟩,
      ⟨some 9, .none, false, 146, .binOp .shl 146 (.tmp 8) (.const (.int .u64 13)) 47⟩,
      ⟨some 10, .none, true, 146, .binOp .xor 146 (.tmp 5) (.tmp 9) 146⟩,
      ⟨some 11, .none, true, 0, .nilCheck (.tmp 3)⟩,
      ⟨none, .none, true, 0, .store 146 (.tmp 11) (.tmp 10)⟩])
  (.keep [0]
  (.seq
    (.region [⟨some 12, .none, false, 152, .move (.tmp 0)⟩,
      ⟨some 13, .none, false, 0, .nilCheck (.tmp 12)⟩,
      ⟨some 14, .none, false, 146, .load 146 (.tmp 13)⟩,
      ⟨some 15, .none, false, 152, .move (.tmp 0)⟩,
      ⟨some 16, .none, false, 0, .nilCheck (.tmp 15)⟩,
      ⟨some 17, .none, false, 146, .load 146 (.tmp 16)⟩,
      ⟨some 18, .none, false, 146, .binOp .shr 146 (.tmp 17) (.const (.int .u64 7)) 47⟩,
      ⟨some 19, .none, true, 146, .binOp .xor 146 (.tmp 14) (.tmp 18) 146⟩,
      ⟨some 20, .none, true, 0, .nilCheck (.tmp 12)⟩,
      ⟨none, .none, true, 0, .store 146 (.tmp 20) (.tmp 19)⟩])
  (.keep [0]
  (.seq
    (.region [⟨some 21, .none, false, 152, .move (.tmp 0)⟩,
      ⟨some 22, .none, false, 0, .nilCheck (.tmp 21)⟩,
      ⟨some 23, .none, false, 146, .load 146 (.tmp 22)⟩,
      ⟨some 24, .none, false, 152, .move (.tmp 0)⟩,
      ⟨some 25, .none, false, 0, .nilCheck (.tmp 24)⟩,
      ⟨some 26, .none, false, 146, .load 146 (.tmp 25)⟩,
      ⟨some 27, .none, false, 146, .binOp .shl 146 (.tmp 26) (.const (.int .u64 17)) 47⟩,
      ⟨some 28, .none, true, 146, .binOp .xor 146 (.tmp 23) (.tmp 27) 146⟩,
      ⟨some 29, .none, true, 0, .nilCheck (.tmp 21)⟩,
      ⟨none, .none, true, 0, .store 146 (.tmp 29) (.tmp 28)⟩])
  (.keep [0]
  (.seq
    (.region [⟨some 30, .none, true, 152, .move (.tmp 0)⟩,
      ⟨some 31, .none, true, 0, .nilCheck (.tmp 30)⟩,
      ⟨some 32, .none, true, 146, .load 146 (.tmp 31)⟩,
      ⟨some 2, .none, true, 68, .assign (.tmp 32)⟩])
  .ret)))))))))
theorem t_P_slices_xorshift_Next : FnT Try.prog f_P_slices_xorshift_Next rc_P_slices_xorshift_Next [.tmp 2] 1 := ⟨⟨[], Try.f131, _, Try.func131, rfl, by kernel_rfl, by kernel_rfl, by kernel_rfl, rfl, by decide⟩, by kernel_rfl⟩
/-- slices.medianAdjacentOrdered[int] -/
abbrev f_slices_medianAdjacentOrdered_int : FuncId := 132
def rc_slices_medianAdjacentOrdered_int : RCode :=
  (.seq
    (.region [⟨some 6, .none, true, 3, .assign (.const (.int .i64 0))⟩])
  (.keep [0, 1, 2]
  (.seq
    (.region [⟨some 7, .none, true, 35, .move (.tmp 0)⟩,
      ⟨some 8, .none, true, 3, .move (.tmp 1)⟩,
      ⟨some 9, .none, true, 3, .binOp .sub 3 (.tmp 8) (.const (.int .i64 1)) 3⟩,
      ⟨some 10, .none, true, 3, .move (.tmp 1)⟩,
      ⟨some 11, .none, true, 3, .move (.tmp 1)⟩,
      ⟨some 12, .none, true, 3, .binOp .add 3 (.tmp 11) (.const (.int .i64 1)) 3⟩,
      ⟨some 13, .none, true, 150, .move (.tmp 2)⟩,
      ⟨some 14, .none, true, 3, .call { callee := .value (.func 133), args := #[.tmp 7, .tmp 9, .tmp 10, .tmp 12, .tmp 13], argTypes := #[35, 3, 3, 3, 150] }⟩,
      ⟨some 6, .none, true, 3, .assign (.tmp 14)⟩])
  .ret)))
theorem t_slices_medianAdjacentOrdered_int : FnT Try.prog f_slices_medianAdjacentOrdered_int rc_slices_medianAdjacentOrdered_int [.tmp 6] 3 := ⟨⟨[], Try.f132, _, Try.func132, rfl, by kernel_rfl, by kernel_rfl, by kernel_rfl, rfl, by decide⟩, by kernel_rfl⟩
/-- slices.medianOrdered[int] -/
abbrev f_slices_medianOrdered_int : FuncId := 133
def rc_slices_medianOrdered_int : RCode :=
  (.seq
    (.region [⟨some 10, .none, true, 3, .assign (.const (.int .i64 0))⟩])
  (.keep [0, 1, 2, 3, 4]
  (.seq
    (.region [⟨some 12, .none, true, 35, .move (.tmp 0)⟩,
      ⟨some 13, .none, true, 3, .move (.tmp 1)⟩,
      ⟨some 14, .none, true, 3, .move (.tmp 2)⟩,
      ⟨some 15, .none, true, 150, .move (.tmp 4)⟩,
      ⟨some 16, .none, true, 153, .call { callee := .value (.func 135), args := #[.tmp 12, .tmp 13, .tmp 14, .tmp 15], argTypes := #[35, 3, 3, 150] }⟩,
      ⟨some 11, .none, true, 153, .move (.tmp 16)⟩,
      ⟨some 17, .none, true, 3, .extract (.tmp 11) 0⟩,
      ⟨some 18, .none, true, 3, .extract (.tmp 11) 1⟩,
      ⟨some 1, .none, true, 3, .assign (.tmp 17)⟩,
      ⟨some 2, .none, true, 3, .assign (.tmp 18)⟩])
  (.keep [0, 1, 2, 3, 4]
  (.seq
    (.region [⟨some 20, .none, true, 35, .move (.tmp 0)⟩,
      ⟨some 21, .none, true, 3, .move (.tmp 2)⟩,
      ⟨some 22, .none, true, 3, .move (.tmp 3)⟩,
      ⟨some 23, .none, true, 150, .move (.tmp 4)⟩,
      ⟨some 24, .none, true, 153, .call { callee := .value (.func 135), args := #[.tmp 20, .tmp 21, .tmp 22, .tmp 23], argTypes := #[35, 3, 3, 150] }⟩,
      ⟨some 19, .none, true, 153, .move (.tmp 24)⟩,
      ⟨some 25, .none, true, 3, .extract (.tmp 19) 0⟩,
      ⟨some 26, .none, true, 3, .extract (.tmp 19) 1⟩,
      ⟨some 2, .none, true, 3, .assign (.tmp 25)⟩,
      ⟨some 3, .none, true, 3, .assign (.tmp 26)⟩])
  (.keep [0, 1, 2, 4]
  (.seq
    (.region [⟨some 28, .none, true, 35, .move (.tmp 0)⟩,
      ⟨some 29, .none, true, 3, .move (.tmp 1)⟩,
      ⟨some 30, .none, true, 3, .move (.tmp 2)⟩,
      ⟨some 31, .none, true, 150, .move (.tmp 4)⟩,
      ⟨some 32, .none, true, 153, .call { callee := .value (.func 135), args := #[.tmp 28, .tmp 29, .tmp 30, .tmp 31], argTypes := #[35, 3, 3, 150] }⟩,
      ⟨some 27, .none, true, 153, .move (.tmp 32)⟩,
      ⟨some 33, .none, true, 3, .extract (.tmp 27) 0⟩,
      ⟨some 34, .none, true, 3, .extract (.tmp 27) 1⟩,
      ⟨some 1, .none, true, 3, .assign (.tmp 33)⟩,
      ⟨some 2, .none, true, 3, .assign (.tmp 34)⟩])
  (.keep [2]
  (.seq
    (.region [⟨some 35, .none, true, 3, .move (.tmp 2)⟩,
      ⟨some 10, .none, true, 3, .assign (.tmp 35)⟩])
  .ret)))))))))
theorem t_slices_medianOrdered_int : FnT Try.prog f_slices_medianOrdered_int rc_slices_medianOrdered_int [.tmp 10] 5 := ⟨⟨[], Try.f133, _, Try.func133, rfl, by kernel_rfl, by kernel_rfl, by kernel_rfl, rfl, by decide⟩, by kernel_rfl⟩
/-- cmp.isNaN[int] -/
abbrev f_cmp_isNaN_int : FuncId := 134
def rc_cmp_isNaN_int : RCode :=
  (.seq
    (.region [⟨some 2, .none, true, 4, .assign (.const (.bool false))⟩])
  (.keep [0]
  (.seq
    (.region [⟨some 3, .none, true, 3, .move (.tmp 0)⟩,
      ⟨some 4, .none, true, 3, .move (.tmp 0)⟩,
      ⟨some 5, .none, true, 4, .binOp .neq 3 (.tmp 3) (.tmp 4) 3⟩,
      ⟨some 2, .none, true, 4, .assign (.tmp 5)⟩])
  .ret)))
theorem t_cmp_isNaN_int : FnT Try.prog f_cmp_isNaN_int rc_cmp_isNaN_int [.tmp 2] 1 := ⟨⟨[], Try.f134, _, Try.func134, rfl, by kernel_rfl, by kernel_rfl, by kernel_rfl, rfl, by decide⟩, by kernel_rfl⟩
/-- slices.order2Ordered[int] -/
abbrev f_slices_order2Ordered_int : FuncId := 135
def rc_slices_order2Ordered_int : RCode :=
  (.seq
    (.region [⟨some 8, .none, true, 3, .assign (.const (.int .i64 0))⟩,
      ⟨some 9, .none, true, 3, .assign (.const (.int .i64 0))⟩])
  (.keep [0, 1, 2, 3]
  (.seq
    (.seq
      (.region [⟨some 10, .none, false, 35, .move (.tmp 0)⟩,
        ⟨some 11, .none, false, 3, .move (.tmp 2)⟩,
        ⟨some 12, .none, false, 0, .indexAddr 35 (.tmp 10) (.tmp 11)⟩,
        ⟨some 13, .none, false, 3, .load 3 (.tmp 12)⟩,
        ⟨some 14, .none, false, 35, .move (.tmp 0)⟩,
        ⟨some 15, .none, false, 3, .move (.tmp 1)⟩,
        ⟨some 16, .none, false, 0, .indexAddr 35 (.tmp 14) (.tmp 15)⟩,
        ⟨some 17, .none, false, 3, .load 3 (.tmp 16)⟩,
        ⟨some 18, .none, true, 4, .call { callee := .value (.func 121), args := #[.tmp 13, .tmp 17], argTypes := #[3, 3] }⟩])
    (.keep [1, 2, 3, 18]
    (.cond (.tmp 18)
      (.seq
        (.region [⟨some 19, .none, true, 150, .move (.tmp 3)⟩,
          ⟨some 20, .none, true, 0, .nilCheck (.tmp 19)⟩,
          ⟨some 21, .none, true, 3, .load 3 (.tmp 20)⟩,
          ⟨some 22, .none, true, 3, .binOp .add 3 (.tmp 21) (.const (.int .i64 1)) 3⟩,
          ⟨some 23, .none, true, 0, .nilCheck (.tmp 19)⟩,
          ⟨none, .none, true, 0, .store 3 (.tmp 23) (.tmp 22)⟩])
      (.keep [1, 2]
      (.seq
        (.region [⟨some 24, .none, true, 3, .move (.tmp 2)⟩,
          ⟨some 25, .none, true, 3, .move (.tmp 1)⟩,
          ⟨some 8, .none, true, 3, .assign (.tmp 24)⟩,
          ⟨some 9, .none, true, 3, .assign (.tmp 25)⟩])
      .ret)))
      .skip)))
  (.seq
    (.region [⟨some 26, .none, true, 3, .move (.tmp 1)⟩,
      ⟨some 27, .none, true, 3, .move (.tmp 2)⟩,
      ⟨some 8, .none, true, 3, .assign (.tmp 26)⟩,
      ⟨some 9, .none, true, 3, .assign (.tmp 27)⟩])
  .ret))))
theorem t_slices_order2Ordered_int : FnT Try.prog f_slices_order2Ordered_int rc_slices_order2Ordered_int [.tmp 8, .tmp 9] 4 := ⟨⟨[], Try.f135, _, Try.func135, rfl, by kernel_rfl, by kernel_rfl, by kernel_rfl, rfl, by decide⟩, by kernel_rfl⟩
def tab : XTab :=
  [(11, rc_reevelaw13_FindKnown, [.tmp 0], 0),
   (14, rc_state_Good, [.tmp 2], 1),
   (15, rc_cap_None, [.tmp 2], 1),
   (17, rc_state_New, [.cell 4 27, .tmp 5], 2),
   (18, rc_geo_Good, [.tmp 2], 1),
   (19, rc_geo_Root, [.tmp 4], 2),
   (27, rc_reevelaw13_awake, [.tmp 0], 0),
   (28, rc_find_Slot, [.tmp 6, .tmp 7], 3),
   (29, rc_find_Cap, [.tmp 6, .cell 7 32, .tmp 8], 3),
   (30, rc_find_Empty, [.tmp 6, .tmp 7], 3),
   (31, rc_geo_Plain, [.cell 0 23], 0),
   (32, rc_state_Forest, [.cell 2 73], 1),
   (34, rc_forest_Good, [.tmp 2], 1),
   (44, rc_find_Ways, [.tmp 6], 3),
   (45, rc_path_Good, [.tmp 2], 1),
   (46, rc_find_Reach, [.tmp 4], 2),
   (47, rc_reevelaw13_nested, [.cell 0 27], 0),
   (48, rc_reevelaw13_way, [.cell 2 60], 1),
   (49, rc_reevelaw13_ints, [.tmp 4], 2),
   (50, rc_state_State_caps, [.tmp 2], 1),
   (51, rc_state_State_things, [.tmp 2], 1),
   (52, rc_state_State_nodes, [.tmp 2], 1),
   (53, rc_state_State_ring, [.tmp 2], 1),
   (54, rc_state_State_allowed, [.tmp 2], 1),
   (55, rc_state_State_holders, [.tmp 4], 2),
   (56, rc_thing_New, [.cell 6 71, .tmp 7], 3),
   (57, rc_geo_in, [.tmp 6], 3),
   (58, rc_state_State_owner, [.tmp 4], 2),
   (59, rc_slices_IndexFunc_S_thing_Thing_thing_Thing, [.tmp 4], 2),
   (66, rc_reevelaw13_first, [.cell 0 27], 0),
   (67, rc_find_in, [.tmp 6], 3),
   (68, rc_find_through, [.cell 4 71, .tmp 5], 2),
   (69, rc_find_step, [.tmp 4], 2),
   (70, rc_forest_Forest_is, [.tmp 4], 2),
   (71, rc_state_State_inside, [.tmp 6], 3),
   (85, rc_find_ways, [], 4),
   (86, rc_find_Ways_1, [], 4),
   (87, rc_path_Good_1, [.tmp 2], 1),
   (88, rc_slices_ContainsFunc_S_int_int, [.tmp 4], 2),
   (89, rc_find_Reach_1, [], 3),
   (90, rc_slices_Sort_S_int_int, [], 1),
   (91, rc_slices_Compact_S_int_int, [.tmp 2], 1),
   (92, rc_cap_Good, [.tmp 2], 1),
   (93, rc_state_State_there, [.tmp 4], 2),
   (94, rc_thing_Good, [.tmp 2], 1),
   (95, rc_cap_Less, [.tmp 4], 2),
   (96, rc_state_State_owner_1, [.tmp 3], 2),
   (97, rc_state_has, [.tmp 4], 2),
   (98, rc_right_Within, [.tmp 4], 2),
   (99, rc_state_within, [], 3),
   (103, rc_slices_Clone_S_int_int, [.tmp 2], 1),
   (104, rc_slices_IndexFunc_S_int_int, [.tmp 4], 2),
   (105, rc_slices_pdqsortOrdered_int, [], 4),
   (106, rc_math_bits_Len, [.tmp 2], 1),
   (107, rc_cap_in, [.tmp 6], 3),
   (108, rc_right_Good, [.tmp 2], 1),
   (109, rc_right_Badge, [.tmp 2], 1),
   (110, rc_cap_badged, [.tmp 2], 1),
   (111, rc_thing_own, [.cell 2 71], 1),
   (112, rc_thing_in, [.tmp 6], 3),
   (113, rc_right_Less, [.tmp 4], 2),
   (115, rc_slices_insertionSortOrdered_int, [], 3),
   (116, rc_slices_heapSortOrdered_int, [], 3),
   (117, rc_slices_breakPatternsOrdered_int, [], 3),
   (118, rc_slices_choosePivotOrdered_int, [.tmp 6, .tmp 7], 3),
   (119, rc_slices_reverseRangeOrdered_int, [], 3),
   (120, rc_slices_partialInsertionSortOrdered_int, [.tmp 6], 3),
   (121, rc_cmp_Less_int, [.tmp 4], 2),
   (122, rc_slices_partitionEqualOrdered_int, [.tmp 8], 4),
   (123, rc_slices_partitionOrdered_int, [.tmp 8, .tmp 9], 4),
   (124, rc_math_bits_Len32, [.tmp 2], 1),
   (125, rc_math_bits_Len64, [.tmp 2], 1),
   (126, rc_right_of, [.tmp 2], 1),
   (129, rc_slices_siftDownOrdered_int, [], 4),
   (130, rc_slices_nextPowerOfTwo, [.tmp 2], 1),
   (131, rc_P_slices_xorshift_Next, [.tmp 2], 1),
   (132, rc_slices_medianAdjacentOrdered_int, [.tmp 6], 3),
   (133, rc_slices_medianOrdered_int, [.tmp 10], 5),
   (134, rc_cmp_isNaN_int, [.tmp 2], 1),
   (135, rc_slices_order2Ordered_int, [.tmp 8, .tmp 9], 4)]
theorem tabOk : TabOk Try.prog tab :=
  .cons t_reevelaw13_FindKnown <|
  .cons t_state_Good <|
  .cons t_cap_None <|
  .cons t_state_New <|
  .cons t_geo_Good <|
  .cons t_geo_Root <|
  .cons t_reevelaw13_awake <|
  .cons t_find_Slot <|
  .cons t_find_Cap <|
  .cons t_find_Empty <|
  .cons t_geo_Plain <|
  .cons t_state_Forest <|
  .cons t_forest_Good <|
  .cons t_find_Ways <|
  .cons t_path_Good <|
  .cons t_find_Reach <|
  .cons t_reevelaw13_nested <|
  .cons t_reevelaw13_way <|
  .cons t_reevelaw13_ints <|
  .cons t_state_State_caps <|
  .cons t_state_State_things <|
  .cons t_state_State_nodes <|
  .cons t_state_State_ring <|
  .cons t_state_State_allowed <|
  .cons t_state_State_holders <|
  .cons t_thing_New <|
  .cons t_geo_in <|
  .cons t_state_State_owner <|
  .cons t_slices_IndexFunc_S_thing_Thing_thing_Thing <|
  .cons t_reevelaw13_first <|
  .cons t_find_in <|
  .cons t_find_through <|
  .cons t_find_step <|
  .cons t_forest_Forest_is <|
  .cons t_state_State_inside <|
  .cons t_find_ways <|
  .cons t_find_Ways_1 <|
  .cons t_path_Good_1 <|
  .cons t_slices_ContainsFunc_S_int_int <|
  .cons t_find_Reach_1 <|
  .cons t_slices_Sort_S_int_int <|
  .cons t_slices_Compact_S_int_int <|
  .cons t_cap_Good <|
  .cons t_state_State_there <|
  .cons t_thing_Good <|
  .cons t_cap_Less <|
  .cons t_state_State_owner_1 <|
  .cons t_state_has <|
  .cons t_right_Within <|
  .cons t_state_within <|
  .cons t_slices_Clone_S_int_int <|
  .cons t_slices_IndexFunc_S_int_int <|
  .cons t_slices_pdqsortOrdered_int <|
  .cons t_math_bits_Len <|
  .cons t_cap_in <|
  .cons t_right_Good <|
  .cons t_right_Badge <|
  .cons t_cap_badged <|
  .cons t_thing_own <|
  .cons t_thing_in <|
  .cons t_right_Less <|
  .cons t_slices_insertionSortOrdered_int <|
  .cons t_slices_heapSortOrdered_int <|
  .cons t_slices_breakPatternsOrdered_int <|
  .cons t_slices_choosePivotOrdered_int <|
  .cons t_slices_reverseRangeOrdered_int <|
  .cons t_slices_partialInsertionSortOrdered_int <|
  .cons t_cmp_Less_int <|
  .cons t_slices_partitionEqualOrdered_int <|
  .cons t_slices_partitionOrdered_int <|
  .cons t_math_bits_Len32 <|
  .cons t_math_bits_Len64 <|
  .cons t_right_of <|
  .cons t_slices_siftDownOrdered_int <|
  .cons t_slices_nextPowerOfTwo <|
  .cons t_P_slices_xorshift_Next <|
  .cons t_slices_medianAdjacentOrdered_int <|
  .cons t_slices_medianOrdered_int <|
  .cons t_cmp_isNaN_int <|
  .cons t_slices_order2Ordered_int <| .nil

end Go.Proofs.Ytkcahnefekkfaaa.F13K
