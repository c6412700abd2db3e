/- Functions of the program made ready for walking, each with its proof; facts of types. Written by gen2.py. -/
import Derived.Test.YtfcbhgiccgommaaDoorF9Ka
set_option linter.unusedVariables false
set_option linter.unusedSectionVars false
set_option maxRecDepth 100000
namespace Go.Proofs.YtfcbhgiccgommaaDoor.F9K
open Go Go.Proofs Go.Proofs.YtfcbhgiccgommaaDoorAbs
variable [Base]
def rc_internal_bytealg_IndexRabinKarp_stringl1 : RCode :=
  (.seq
    (.seq
      (.region [⟨some 41, .none, true, 3, .move (.tmp 10)⟩,
        ⟨some 42, .none, true, 9, .move (.tmp 0)⟩,
        ⟨some 43, .none, true, 3, .call { callee := .builtin .len, args := #[.tmp 42], argTypes := #[9] }⟩,
        ⟨some 44, .none, true, 4, .binOp .lss 3 (.tmp 41) (.tmp 43) 3⟩])
    (.keep [0, 1, 5, 6, 7, 8, 10, 44]
    (.cond (.tmp 44)
      .skip
      (.exit 2))))
  (.block 3
    (.seq
      (.region [⟨some 45, .none, true, 136, .move (.tmp 8)⟩,
        ⟨some 46, .none, true, 136, .binOp .mul 136 (.tmp 45) (.const (.int .u32 16777619)) 136⟩,
        ⟨some 8, .none, true, 136, .assign (.tmp 46)⟩])
    (.keep [0, 1, 5, 6, 7, 8, 10]
    (.seq
      (.region [⟨some 47, .none, true, 136, .move (.tmp 8)⟩,
        ⟨some 48, .none, true, 9, .move (.tmp 0)⟩,
        ⟨some 49, .none, true, 3, .move (.tmp 10)⟩,
        ⟨some 50, .none, true, 5, .index 9 (.tmp 48) (.tmp 49)⟩,
        ⟨some 51, .none, true, 136, .convert 5 136 (.tmp 50)⟩,
        ⟨some 52, .none, true, 136, .binOp .add 136 (.tmp 47) (.tmp 51) 136⟩,
        ⟨some 8, .none, true, 136, .assign (.tmp 52)⟩])
    (.keep [0, 1, 5, 6, 7, 8, 10]
    (.seq
      (.region [⟨some 53, .none, true, 136, .move (.tmp 8)⟩,
        ⟨some 54, .none, true, 136, .move (.tmp 6)⟩,
        ⟨some 55, .none, true, 9, .move (.tmp 0)⟩,
        ⟨some 56, .none, true, 3, .move (.tmp 10)⟩,
        ⟨some 57, .none, true, 3, .move (.tmp 7)⟩,
        ⟨some 58, .none, true, 3, .binOp .sub 3 (.tmp 56) (.tmp 57) 3⟩,
        ⟨some 59, .none, true, 5, .index 9 (.tmp 55) (.tmp 58)⟩,
        ⟨some 60, .none, true, 136, .convert 5 136 (.tmp 59)⟩,
        ⟨some 61, .none, true, 136, .binOp .mul 136 (.tmp 54) (.tmp 60) 136⟩,
        ⟨some 62, .none, true, 136, .binOp .sub 136 (.tmp 53) (.tmp 61) 136⟩,
        ⟨some 8, .none, true, 136, .assign (.tmp 62)⟩])
    (.keep [0, 1, 5, 6, 7, 8, 10]
    (.seq
      (.region [⟨some 63, .none, true, 3, .move (.tmp 10)⟩,
        ⟨some 64, .none, true, 3, .binOp .add 3 (.tmp 63) (.const (.int .i64 1)) 3⟩,
        ⟨some 10, .none, true, 3, .assign (.tmp 64)⟩])
    (.keep [0, 1, 5, 6, 7, 8, 10]
    (.seq
      (.region [⟨some 65, .none, true, 136, .move (.tmp 8)⟩,
        ⟨some 66, .none, true, 136, .move (.tmp 5)⟩,
        ⟨some 67, .none, true, 4, .binOp .eql 136 (.tmp 65) (.tmp 66) 136⟩,
        ⟨some 68, .none, true, 4, .move (.tmp 67)⟩,
        ⟨some 69, .some 68 true, true, 9, .move (.tmp 0)⟩,
        ⟨some 70, .some 68 true, true, 3, .move (.tmp 10)⟩,
        ⟨some 71, .some 68 true, true, 3, .move (.tmp 7)⟩,
        ⟨some 72, .some 68 true, true, 3, .binOp .sub 3 (.tmp 70) (.tmp 71) 3⟩,
        ⟨some 73, .some 68 true, true, 3, .move (.tmp 10)⟩,
        ⟨some 74, .some 68 true, true, 9, .slice 9 (.tmp 69) (some (.tmp 72)) (some (.tmp 73)) none⟩,
        ⟨some 75, .some 68 true, true, 9, .move (.tmp 1)⟩,
        ⟨some 76, .some 68 true, true, 4, .binOp .eql 9 (.tmp 74) (.tmp 75) 9⟩,
        ⟨some 77, .none, true, 4, .pick (.tmp 68) (.tmp 76) (.const (.bool false))⟩])
    (.keep [0, 1, 5, 6, 7, 8, 10, 77]
    (.cond (.tmp 77)
      (.seq
        (.region [⟨some 78, .none, true, 3, .move (.tmp 10)⟩,
          ⟨some 79, .none, true, 3, .move (.tmp 7)⟩,
          ⟨some 80, .none, true, 3, .binOp .sub 3 (.tmp 78) (.tmp 79) 3⟩,
          ⟨some 4, .none, true, 3, .assign (.tmp 80)⟩])
      .ret)
      .skip)))))))))))))
def rc_internal_bytealg_IndexRabinKarp_string : RCode :=
  (.seq
    (.region [⟨some 4, .none, true, 3, .assign (.const (.int .i64 0))⟩])
  (.keep [0, 1]
  (.seq
    (.region [⟨some 12, .none, true, 9, .move (.tmp 1)⟩,
      ⟨some 13, .none, true, 149, .call { callee := .value (.func 118), args := #[.tmp 12], argTypes := #[9] }⟩,
      ⟨some 11, .none, true, 149, .move (.tmp 13)⟩,
      ⟨some 14, .none, true, 136, .extract (.tmp 11) 0⟩,
      ⟨some 15, .none, true, 136, .extract (.tmp 11) 1⟩,
      ⟨some 5, .none, true, 136, .assign (.tmp 14)⟩,
      ⟨some 6, .none, true, 136, .assign (.tmp 15)⟩])
  (.keep [0, 1, 5, 6]
  (.seq
    (.region [⟨some 16, .none, true, 9, .move (.tmp 1)⟩,
      ⟨some 17, .none, true, 3, .call { callee := .builtin .len, args := #[.tmp 16], argTypes := #[9] }⟩,
      ⟨some 7, .none, true, 3, .assign (.tmp 17)⟩])
  (.keep [0, 1, 5, 6, 7]
  (.seq
    (.region [⟨some 8, .none, true, 136, .assign (.const (.int .u32 0))⟩])
  (.keep [0, 1, 5, 6, 7, 8]
  (.seq
    (.seq
      (.region [⟨some 9, .none, true, 3, .assign (.const (.int .i64 0))⟩])
    (.keep [0, 1, 5, 6, 7, 8, 9]
    (.block 0
      (.loop [0, 1, 5, 6, 7, 8, 9] rc_internal_bytealg_IndexRabinKarp_stringl0))))
  (.seq
    (.seq
      (.region [⟨some 30, .none, true, 136, .move (.tmp 8)⟩,
        ⟨some 31, .none, true, 136, .move (.tmp 5)⟩,
        ⟨some 32, .none, true, 4, .binOp .eql 136 (.tmp 30) (.tmp 31) 136⟩,
        ⟨some 33, .none, true, 4, .move (.tmp 32)⟩,
        ⟨some 34, .some 33 true, true, 9, .move (.tmp 0)⟩,
        ⟨some 35, .some 33 true, true, 3, .move (.tmp 7)⟩,
        ⟨some 36, .some 33 true, true, 9, .slice 9 (.tmp 34) none (some (.tmp 35)) none⟩,
        ⟨some 37, .some 33 true, true, 9, .move (.tmp 1)⟩,
        ⟨some 38, .some 33 true, true, 4, .binOp .eql 9 (.tmp 36) (.tmp 37) 9⟩,
        ⟨some 39, .none, true, 4, .pick (.tmp 33) (.tmp 38) (.const (.bool false))⟩])
    (.keep [0, 1, 5, 6, 7, 8, 39]
    (.cond (.tmp 39)
      (.seq
        (.region [⟨some 4, .none, true, 3, .assign (.const (.int .i64 0))⟩])
      .ret)
      .skip)))
  (.seq
    (.seq
      (.region [⟨some 40, .none, true, 3, .move (.tmp 7)⟩,
        ⟨some 10, .none, true, 3, .assign (.tmp 40)⟩])
    (.keep [0, 1, 5, 6, 7, 8, 10]
    (.block 2
      (.loop [0, 1, 5, 6, 7, 8, 10] rc_internal_bytealg_IndexRabinKarp_stringl1))))
  (.seq
    (.region [⟨some 4, .none, true, 3, .assign (.const (.int .i64 (-1)))⟩])
  .ret))))))))))))
theorem t_internal_bytealg_IndexRabinKarp_string : FnT Tryd.prog f_internal_bytealg_IndexRabinKarp_string rc_internal_bytealg_IndexRabinKarp_string [.tmp 4] 2 := ⟨⟨[], Tryd.f112, _, Tryd.func112, rfl, by kernel_rfl, by kernel_rfl, by kernel_rfl, rfl, by decide⟩, by kernel_rfl⟩
/-- internal/strconv.lower -/
abbrev f_internal_strconv_lower : FuncId := 113
def rc_internal_strconv_lower : RCode :=
  (.seq
    (.region [⟨some 2, .none, true, 5, .assign (.const (.int .u8 0))⟩])
  (.keep [0]
  (.seq
    (.region [⟨some 3, .none, true, 5, .move (.tmp 0)⟩,
      ⟨some 4, .none, true, 5, .binOp .or 5 (.tmp 3) (.const (.int .u8 32)) 5⟩,
      ⟨some 2, .none, true, 5, .assign (.tmp 4)⟩])
  .ret)))
theorem t_internal_strconv_lower : FnT Tryd.prog f_internal_strconv_lower rc_internal_strconv_lower [.tmp 2] 1 := ⟨⟨[], Tryd.f113, _, Tryd.func113, rfl, by kernel_rfl, by kernel_rfl, by kernel_rfl, rfl, by decide⟩, by kernel_rfl⟩
/-- internal/strconv.underscoreOK -/
abbrev f_internal_strconv_underscoreOK : FuncId := 114
def rc_internal_strconv_underscoreOKl0 : RCode :=
  (.seq
    (.seq
      (.region [⟨some 51, .none, true, 3, .move (.tmp 4)⟩,
        ⟨some 52, .none, true, 9, .move (.tmp 0)⟩,
        ⟨some 53, .none, true, 3, .call { callee := .builtin .len, args := #[.tmp 52], argTypes := #[9] }⟩,
        ⟨some 54, .none, true, 4, .binOp .lss 3 (.tmp 51) (.tmp 53) 3⟩])
    (.keep [0, 3, 4, 5, 54]
    (.cond (.tmp 54)
      .skip
      (.exit 0))))
  (.seq
    (.block 1
      (.seq
        (.seq
          (.region [⟨some 57, .none, true, 9, .move (.tmp 0)⟩,
            ⟨some 58, .none, true, 3, .move (.tmp 4)⟩,
            ⟨some 59, .none, true, 5, .index 9 (.tmp 57) (.tmp 58)⟩,
            ⟨some 60, .none, true, 4, .binOp .leq 5 (.const (.int .u8 48)) (.tmp 59) 5⟩,
            ⟨some 61, .none, true, 4, .move (.tmp 60)⟩,
            ⟨some 62, .some 61 true, true, 9, .move (.tmp 0)⟩,
            ⟨some 63, .some 61 true, true, 3, .move (.tmp 4)⟩,
            ⟨some 64, .some 61 true, true, 5, .index 9 (.tmp 62) (.tmp 63)⟩,
            ⟨some 65, .some 61 true, true, 4, .binOp .leq 5 (.tmp 64) (.const (.int .u8 57)) 5⟩,
            ⟨some 66, .none, true, 4, .pick (.tmp 61) (.tmp 65) (.const (.bool false))⟩,
            ⟨some 67, .none, true, 4, .move (.tmp 66)⟩,
            ⟨some 68, .some 67 false, true, 4, .move (.tmp 5)⟩,
            ⟨some 69, .some 67 false, true, 4, .move (.tmp 68)⟩,
            ⟨some 70, .some 69 true, true, 9, .move (.tmp 0)⟩,
            ⟨some 71, .some 69 true, true, 3, .move (.tmp 4)⟩,
            ⟨some 72, .some 69 true, true, 5, .index 9 (.tmp 70) (.tmp 71)⟩,
            ⟨some 73, .some 69 true, true, 5, .call { callee := .value (.func 113), args := #[.tmp 72], argTypes := #[5] }⟩,
            ⟨some 74, .some 69 true, true, 4, .binOp .leq 5 (.const (.int .u8 97)) (.tmp 73) 5⟩,
            ⟨some 75, .some 67 false, true, 4, .pick (.tmp 69) (.tmp 74) (.const (.bool false))⟩,
            ⟨some 76, .some 67 false, true, 4, .move (.tmp 75)⟩,
            ⟨some 77, .some 76 true, true, 9, .move (.tmp 0)⟩,
            ⟨some 78, .some 76 true, true, 3, .move (.tmp 4)⟩,
            ⟨some 79, .some 76 true, true, 5, .index 9 (.tmp 77) (.tmp 78)⟩,
            ⟨some 80, .some 76 true, true, 5, .call { callee := .value (.func 113), args := #[.tmp 79], argTypes := #[5] }⟩,
            ⟨some 81, .some 76 true, true, 4, .binOp .leq 5 (.tmp 80) (.const (.int .u8 102)) 5⟩,
            ⟨some 82, .some 67 false, true, 4, .pick (.tmp 76) (.tmp 81) (.const (.bool false))⟩,
            ⟨some 83, .none, true, 4, .pick (.tmp 67) (.const (.bool true)) (.tmp 82)⟩])
        (.keep [0, 3, 4, 5, 83]
        (.cond (.tmp 83)
          (.seq
            (.region [⟨some 3, .none, true, 21, .assign (.const (.int .i32 48))⟩])
          (.exit 1))
          .skip)))
      (.seq
        (.seq
          (.region [⟨some 84, .none, true, 9, .move (.tmp 0)⟩,
            ⟨some 85, .none, true, 3, .move (.tmp 4)⟩,
            ⟨some 86, .none, true, 5, .index 9 (.tmp 84) (.tmp 85)⟩,
            ⟨some 87, .none, true, 4, .binOp .eql 5 (.tmp 86) (.const (.int .u8 95)) 5⟩])
        (.keep [0, 3, 4, 5, 87]
        (.cond (.tmp 87)
          (.seq
            (.seq
              (.region [⟨some 88, .none, true, 21, .move (.tmp 3)⟩,
                ⟨some 89, .none, true, 4, .binOp .neq 21 (.tmp 88) (.const (.int .i32 48)) 21⟩])
            (.keep [0, 4, 5, 89]
            (.cond (.tmp 89)
              (.seq
                (.region [⟨some 2, .none, true, 4, .assign (.const (.bool false))⟩])
              .ret)
              .skip)))
          (.seq
            (.region [⟨some 3, .none, true, 21, .assign (.const (.int .i32 95))⟩])
          (.exit 1)))
          .skip)))
      (.seq
        (.seq
          (.region [⟨some 90, .none, true, 21, .move (.tmp 3)⟩,
            ⟨some 91, .none, true, 4, .binOp .eql 21 (.tmp 90) (.const (.int .i32 95)) 21⟩])
        (.keep [0, 4, 5, 91]
        (.cond (.tmp 91)
          (.seq
            (.region [⟨some 2, .none, true, 4, .assign (.const (.bool false))⟩])
          .ret)
          .skip)))
      (.region [⟨some 3, .none, true, 21, .assign (.const (.int .i32 33))⟩])))))
  (.keep [0, 3, 4, 5]
  (.region [⟨some 55, .none, true, 3, .move (.tmp 4)⟩,
    ⟨some 56, .none, true, 3, .binOp .add 3 (.tmp 55) (.const (.int .i64 1)) 3⟩,
    ⟨some 4, .none, true, 3, .assign (.tmp 56)⟩]))))
def rc_internal_strconv_underscoreOK : RCode :=
  (.seq
    (.region [⟨some 2, .none, true, 4, .assign (.const (.bool false))⟩])
  (.keep [0]
  (.seq
    (.region [⟨some 3, .none, true, 21, .assign (.const (.int .i32 94))⟩])
  (.keep [0, 3]
  (.seq
    (.region [⟨some 4, .none, true, 3, .assign (.const (.int .i64 0))⟩])
  (.keep [0, 3, 4]
  (.seq
    (.seq
      (.region [⟨some 6, .none, true, 9, .move (.tmp 0)⟩,
        ⟨some 7, .none, true, 3, .call { callee := .builtin .len, args := #[.tmp 6], argTypes := #[9] }⟩,
        ⟨some 8, .none, true, 4, .binOp .geq 3 (.tmp 7) (.const (.int .i64 1)) 3⟩,
        ⟨some 9, .none, true, 4, .move (.tmp 8)⟩,
        ⟨some 10, .some 9 true, true, 9, .move (.tmp 0)⟩,
        ⟨some 11, .some 9 true, true, 5, .index 9 (.tmp 10) (.const (.int .i64 0))⟩,
        ⟨some 12, .some 9 true, true, 4, .binOp .eql 5 (.tmp 11) (.const (.int .u8 45)) 5⟩,
        ⟨some 13, .some 9 true, true, 4, .move (.tmp 12)⟩,
        ⟨some 14, .some 13 false, true, 9, .move (.tmp 0)⟩,
        ⟨some 15, .some 13 false, true, 5, .index 9 (.tmp 14) (.const (.int .i64 0))⟩,
        ⟨some 16, .some 13 false, true, 4, .binOp .eql 5 (.tmp 15) (.const (.int .u8 43)) 5⟩,
        ⟨some 17, .some 9 true, true, 4, .pick (.tmp 13) (.const (.bool true)) (.tmp 16)⟩,
        ⟨some 18, .none, true, 4, .pick (.tmp 9) (.tmp 17) (.const (.bool false))⟩])
    (.keep [0, 3, 4, 18]
    (.cond (.tmp 18)
      (.region [⟨some 19, .none, true, 9, .move (.tmp 0)⟩,
        ⟨some 20, .none, true, 9, .slice 9 (.tmp 19) (some (.const (.int .i64 1))) none none⟩,
        ⟨some 0, .none, true, 9, .assign (.tmp 20)⟩])
      .skip)))
  (.seq
    (.region [⟨some 5, .none, true, 4, .assign (.const (.bool false))⟩])
  (.keep [0, 3, 4, 5]
  (.seq
    (.seq
      (.region [⟨some 21, .none, true, 9, .move (.tmp 0)⟩,
        ⟨some 22, .none, true, 3, .call { callee := .builtin .len, args := #[.tmp 21], argTypes := #[9] }⟩,
        ⟨some 23, .none, true, 4, .binOp .geq 3 (.tmp 22) (.const (.int .i64 2)) 3⟩,
        ⟨some 24, .none, true, 4, .move (.tmp 23)⟩,
        ⟨some 25, .some 24 true, true, 9, .move (.tmp 0)⟩,
        ⟨some 26, .some 24 true, true, 5, .index 9 (.tmp 25) (.const (.int .i64 0))⟩,
        ⟨some 27, .some 24 true, true, 4, .binOp .eql 5 (.tmp 26) (.const (.int .u8 48)) 5⟩,
        ⟨some 28, .none, true, 4, .pick (.tmp 24) (.tmp 27) (.const (.bool false))⟩,
        ⟨some 29, .none, true, 4, .move (.tmp 28)⟩,
        ⟨some 30, .some 29 true, true, 9, .move (.tmp 0)⟩,
        ⟨some 31, .some 29 true, true, 5, .index 9 (.tmp 30) (.const (.int .i64 1))⟩,
        ⟨some 32, .some 29 true, true, 5, .call { callee := .value (.func 113), args := #[.tmp 31], argTypes := #[5] }⟩,
        ⟨some 33, .some 29 true, true, 4, .binOp .eql 5 (.tmp 32) (.const (.int .u8 98)) 5⟩,
        ⟨some 34, .some 29 true, true, 4, .move (.tmp 33)⟩,
        ⟨some 35, .some 34 false, true, 9, .move (.tmp 0)⟩,
        ⟨some 36, .some 34 false, true, 5, .index 9 (.tmp 35) (.const (.int .i64 1))⟩,
        ⟨some 37, .some 34 false, true, 5, .call { callee := .value (.func 113), args := #[.tmp 36], argTypes := #[5] }⟩,
        ⟨some 38, .some 34 false, true, 4, .binOp .eql 5 (.tmp 37) (.const (.int .u8 111)) 5⟩,
        ⟨some 39, .some 29 true, true, 4, .pick (.tmp 34) (.const (.bool true)) (.tmp 38)⟩,
        ⟨some 40, .some 29 true, true, 4, .move (.tmp 39)⟩,
        ⟨some 41, .some 40 false, true, 9, .move (.tmp 0)⟩,
        ⟨some 42, .some 40 false, true, 5, .index 9 (.tmp 41) (.const (.int .i64 1))⟩,
        ⟨some 43, .some 40 false, true, 5, .call { callee := .value (.func 113), args := #[.tmp 42], argTypes := #[5] }⟩,
        ⟨some 44, .some 40 false, true, 4, .binOp .eql 5 (.tmp 43) (.const (.int .u8 120)) 5⟩,
        ⟨some 45, .some 29 true, true, 4, .pick (.tmp 40) (.const (.bool true)) (.tmp 44)⟩,
        ⟨some 46, .none, true, 4, .pick (.tmp 29) (.tmp 45) (.const (.bool false))⟩])
    (.keep [0, 3, 4, 5, 46]
    (.cond (.tmp 46)
      (.seq
        (.region [⟨some 4, .none, true, 3, .assign (.const (.int .i64 2))⟩])
      (.keep [0, 4]
      (.seq
        (.region [⟨some 3, .none, true, 21, .assign (.const (.int .i32 48))⟩])
      (.keep [0, 3, 4]
      (.region [⟨some 47, .none, true, 9, .move (.tmp 0)⟩,
        ⟨some 48, .none, true, 5, .index 9 (.tmp 47) (.const (.int .i64 1))⟩,
        ⟨some 49, .none, true, 5, .call { callee := .value (.func 113), args := #[.tmp 48], argTypes := #[5] }⟩,
        ⟨some 50, .none, true, 4, .binOp .eql 5 (.tmp 49) (.const (.int .u8 120)) 5⟩,
        ⟨some 5, .none, true, 4, .assign (.tmp 50)⟩])))))
      .skip)))
  (.seq
    (.block 0
      (.loop [0, 3, 4, 5] rc_internal_strconv_underscoreOKl0))
  (.keep [3]
  (.seq
    (.region [⟨some 92, .none, true, 21, .move (.tmp 3)⟩,
      ⟨some 93, .none, true, 4, .binOp .neq 21 (.tmp 92) (.const (.int .i32 95)) 21⟩,
      ⟨some 2, .none, true, 4, .assign (.tmp 93)⟩])
  .ret)))))))))))))
theorem t_internal_strconv_underscoreOK : FnT Tryd.prog f_internal_strconv_underscoreOK rc_internal_strconv_underscoreOK [.tmp 2] 1 := ⟨⟨[], Tryd.f114, _, Tryd.func114, rfl, by kernel_rfl, by kernel_rfl, by kernel_rfl, rfl, by decide⟩, by kernel_rfl⟩
/-- math/bits.TrailingZeros32 -/
abbrev f_math_bits_TrailingZeros32 : FuncId := 115
def rc_math_bits_TrailingZeros32 : RCode :=
  (.seq
    (.region [⟨some 2, .none, true, 3, .assign (.const (.int .i64 0))⟩])
  (.keep [0]
  (.seq
    (.seq
      (.region [⟨some 3, .none, true, 136, .move (.tmp 0)⟩,
        ⟨some 4, .none, true, 4, .binOp .eql 136 (.tmp 3) (.const (.int .u32 0)) 136⟩])
    (.keep [0, 4]
    (.cond (.tmp 4)
      (.seq
        (.region [⟨some 2, .none, true, 3, .assign (.const (.int .i64 32))⟩])
      .ret)
      .skip)))
  (.seq
    (.region [⟨some 5, .none, true, 136, .move (.tmp 0)⟩,
      ⟨some 6, .none, true, 136, .move (.tmp 0)⟩,
      ⟨some 7, .none, true, 136, .unOp .neg 136 (.tmp 6)⟩,
      ⟨some 8, .none, true, 136, .binOp .and 136 (.tmp 5) (.tmp 7) 136⟩,
      ⟨some 9, .none, true, 136, .binOp .mul 136 (.tmp 8) (.const (.int .u32 125613361)) 136⟩,
      ⟨some 10, .none, true, 136, .binOp .shr 136 (.tmp 9) (.const (.int .u64 27)) 85⟩,
      ⟨some 11, .none, true, 0, .indexAddr 151 (.global 6) (.tmp 10)⟩,
      ⟨some 12, .none, true, 5, .load 5 (.tmp 11)⟩,
      ⟨some 13, .none, true, 3, .convert 5 3 (.tmp 12)⟩,
      ⟨some 2, .none, true, 3, .assign (.tmp 13)⟩])
  .ret))))
theorem t_math_bits_TrailingZeros32 : FnT Tryd.prog f_math_bits_TrailingZeros32 rc_math_bits_TrailingZeros32 [.tmp 2] 1 := ⟨⟨[], Tryd.f115, _, Tryd.func115, rfl, by kernel_rfl, by kernel_rfl, by kernel_rfl, rfl, by decide⟩, by kernel_rfl⟩
/-- math/bits.TrailingZeros64 -/
abbrev f_math_bits_TrailingZeros64 : FuncId := 116
def rc_math_bits_TrailingZeros64 : RCode :=
  (.seq
    (.region [⟨some 2, .none, true, 3, .assign (.const (.int .i64 0))⟩])
  (.keep [0]
  (.seq
    (.seq
      (.region [⟨some 3, .none, true, 27, .move (.tmp 0)⟩,
        ⟨some 4, .none, true, 4, .binOp .eql 27 (.tmp 3) (.const (.int .u64 0)) 27⟩])
    (.keep [0, 4]
    (.cond (.tmp 4)
      (.seq
        (.region [⟨some 2, .none, true, 3, .assign (.const (.int .i64 64))⟩])
      .ret)
      .skip)))
  (.seq
    (.region [⟨some 5, .none, true, 27, .move (.tmp 0)⟩,
      ⟨some 6, .none, true, 27, .move (.tmp 0)⟩,
      ⟨some 7, .none, true, 27, .unOp .neg 27 (.tmp 6)⟩,
      ⟨some 8, .none, true, 27, .binOp .and 27 (.tmp 5) (.tmp 7) 27⟩,
      ⟨some 9, .none, true, 27, .binOp .mul 27 (.tmp 8) (.const (.int .u64 285870213051353865)) 27⟩,
      ⟨some 10, .none, true, 27, .binOp .shr 27 (.tmp 9) (.const (.int .u64 58)) 85⟩,
      ⟨some 11, .none, true, 0, .indexAddr 152 (.global 7) (.tmp 10)⟩,
      ⟨some 12, .none, true, 5, .load 5 (.tmp 11)⟩,
      ⟨some 13, .none, true, 3, .convert 5 3 (.tmp 12)⟩,
      ⟨some 2, .none, true, 3, .assign (.tmp 13)⟩])
  .ret))))
theorem t_math_bits_TrailingZeros64 : FnT Tryd.prog f_math_bits_TrailingZeros64 rc_math_bits_TrailingZeros64 [.tmp 2] 1 := ⟨⟨[], Tryd.f116, _, Tryd.func116, rfl, by kernel_rfl, by kernel_rfl, by kernel_rfl, rfl, by decide⟩, by kernel_rfl⟩
/-- internal/bytealg.hashStr[string] -/
abbrev f_internal_bytealg_hashStr_string : FuncId := 118
def rc_internal_bytealg_hashStr_stringl0 : RCode :=
  (.seq
    (.seq
      (.region [⟨some 9, .none, true, 3, .move (.tmp 5)⟩,
        ⟨some 10, .none, true, 9, .move (.tmp 0)⟩,
        ⟨some 11, .none, true, 3, .call { callee := .builtin .len, args := #[.tmp 10], argTypes := #[9] }⟩,
        ⟨some 12, .none, true, 4, .binOp .lss 3 (.tmp 9) (.tmp 11) 3⟩])
    (.keep [0, 4, 5, 12]
    (.cond (.tmp 12)
      .skip
      (.exit 0))))
  (.seq
    (.block 1
      (.region [⟨some 15, .none, true, 136, .move (.tmp 4)⟩,
        ⟨some 16, .none, true, 136, .binOp .mul 136 (.tmp 15) (.const (.int .u32 16777619)) 136⟩,
        ⟨some 17, .none, true, 9, .move (.tmp 0)⟩,
        ⟨some 18, .none, true, 3, .move (.tmp 5)⟩,
        ⟨some 19, .none, true, 5, .index 9 (.tmp 17) (.tmp 18)⟩,
        ⟨some 20, .none, true, 136, .convert 5 136 (.tmp 19)⟩,
        ⟨some 21, .none, true, 136, .binOp .add 136 (.tmp 16) (.tmp 20) 136⟩,
        ⟨some 4, .none, true, 136, .assign (.tmp 21)⟩]))
  (.keep [0, 4, 5]
  (.region [⟨some 13, .none, true, 3, .move (.tmp 5)⟩,
    ⟨some 14, .none, true, 3, .binOp .add 3 (.tmp 13) (.const (.int .i64 1)) 3⟩,
    ⟨some 5, .none, true, 3, .assign (.tmp 14)⟩]))))
def rc_internal_bytealg_hashStr_stringl1 : RCode :=
  (.seq
    (.seq
      (.region [⟨some 24, .none, true, 3, .move (.tmp 8)⟩,
        ⟨some 25, .none, true, 4, .binOp .gtr 3 (.tmp 24) (.const (.int .i64 0)) 3⟩])
    (.keep [4, 6, 7, 8, 25]
    (.cond (.tmp 25)
      .skip
      (.exit 2))))
  (.seq
    (.block 3
      (.seq
        (.seq
          (.region [⟨some 28, .none, true, 3, .move (.tmp 8)⟩,
            ⟨some 29, .none, true, 3, .binOp .and 3 (.tmp 28) (.const (.int .i64 1)) 3⟩,
            ⟨some 30, .none, true, 4, .binOp .neq 3 (.tmp 29) (.const (.int .i64 0)) 3⟩])
        (.keep [4, 6, 7, 8, 30]
        (.cond (.tmp 30)
          (.region [⟨some 31, .none, true, 136, .move (.tmp 6)⟩,
            ⟨some 32, .none, true, 136, .move (.tmp 7)⟩,
            ⟨some 33, .none, true, 136, .binOp .mul 136 (.tmp 31) (.tmp 32) 136⟩,
            ⟨some 6, .none, true, 136, .assign (.tmp 33)⟩])
          .skip)))
      (.region [⟨some 34, .none, true, 136, .move (.tmp 7)⟩,
        ⟨some 35, .none, true, 136, .move (.tmp 7)⟩,
        ⟨some 36, .none, true, 136, .binOp .mul 136 (.tmp 34) (.tmp 35) 136⟩,
        ⟨some 7, .none, true, 136, .assign (.tmp 36)⟩])))
  (.keep [4, 6, 7, 8]
  (.region [⟨some 26, .none, true, 3, .move (.tmp 8)⟩,
    ⟨some 27, .none, true, 3, .binOp .shr 3 (.tmp 26) (.const (.int .u64 1)) 85⟩,
    ⟨some 8, .none, true, 3, .assign (.tmp 27)⟩]))))
def rc_internal_bytealg_hashStr_string : RCode :=
  (.seq
    (.region [⟨some 2, .none, true, 136, .assign (.const (.int .u32 0))⟩,
      ⟨some 3, .none, true, 136, .assign (.const (.int .u32 0))⟩])
  (.keep [0]
  (.seq
    (.region [⟨some 4, .none, true, 136, .assign (.const (.int .u32 0))⟩])
  (.keep [0, 4]
  (.seq
    (.seq
      (.region [⟨some 5, .none, true, 3, .assign (.const (.int .i64 0))⟩])
    (.keep [0, 4, 5]
    (.block 0
      (.loop [0, 4, 5] rc_internal_bytealg_hashStr_stringl0))))
  (.seq
    (.region [⟨some 6, .none, true, 136, .assign (.const (.int .u32 1))⟩,
      ⟨some 7, .none, true, 136, .assign (.const (.int .u32 16777619))⟩])
  (.keep [0, 4, 6, 7]
  (.seq
    (.seq
      (.region [⟨some 22, .none, true, 9, .move (.tmp 0)⟩,
        ⟨some 23, .none, true, 3, .call { callee := .builtin .len, args := #[.tmp 22], argTypes := #[9] }⟩,
        ⟨some 8, .none, true, 3, .assign (.tmp 23)⟩])
    (.keep [4, 6, 7, 8]
    (.block 2
      (.loop [4, 6, 7, 8] rc_internal_bytealg_hashStr_stringl1))))
  (.seq
    (.region [⟨some 37, .none, true, 136, .move (.tmp 4)⟩,
      ⟨some 38, .none, true, 136, .move (.tmp 6)⟩,
      ⟨some 2, .none, true, 136, .assign (.tmp 37)⟩,
      ⟨some 3, .none, true, 136, .assign (.tmp 38)⟩])
  .ret)))))))))
theorem t_internal_bytealg_hashStr_string : FnT Tryd.prog f_internal_bytealg_hashStr_string rc_internal_bytealg_hashStr_string [.tmp 2, .tmp 3] 1 := ⟨⟨[], Tryd.f118, _, Tryd.func118, rfl, by kernel_rfl, by kernel_rfl, by kernel_rfl, rfl, by decide⟩, by kernel_rfl⟩
def tab : XTab :=
  [(10, rc_reevelaw9_PathKnown, [.tmp 0], 0),
   (12, rc_reevelaw9_awake, [.tmp 0], 0),
   (13, rc_path_Good, [.tmp 2], 1),
   (14, rc_path_Word, [.tmp 2, .tmp 3], 1),
   (15, rc_reevelaw9_ints, [.tmp 4], 2),
   (16, rc_path_Text, [.tmp 2], 1),
   (17, rc_path_Begins, [.tmp 4], 2),
   (35, rc_path_Get, [.cell 2 25, .tmp 3], 1),
   (36, rc_path_Parse, [.cell 2 25, .tmp 3], 1),
   (42, rc_path_Good_1, [.tmp 2], 1),
   (43, rc_slices_ContainsFunc_S_int_int, [.tmp 4], 2),
   (44, rc_strconv_Itoa, [.tmp 2], 1),
   (45, rc_strings_Join, [.tmp 4], 2),
   (46, rc_slices_Equal_S_int_int, [.tmp 4], 2),
   (62, rc_strings_SplitN, [.tmp 6], 3),
   (63, rc_strconv_Atoi, [.tmp 2, .tmp 3], 1),
   (64, rc_slices_IndexFunc_S_int_int, [.tmp 4], 2),
   (65, rc_internal_strconv_Itoa, [.tmp 2], 1),
   (66, rc_P_strings_Builder_Grow, [], 2),
   (67, rc_P_strings_Builder_WriteString, [.tmp 4, .tmp 5], 2),
   (68, rc_P_strings_Builder_String, [.tmp 2], 1),
   (76, rc_strings_genSplit, [.tmp 8], 4),
   (77, rc_internal_strconv_Atoi, [.tmp 2, .tmp 3], 1),
   (78, rc_strconv_toError, [.tmp 10], 5),
   (79, rc_internal_strconv_FormatInt, [.tmp 4], 2),
   (81, rc_P_strings_Builder_grow, [], 2),
   (82, rc_strings_explode, [.tmp 4], 2),
   (83, rc_strings_Count, [.tmp 4], 2),
   (84, rc_strings_Index, [.tmp 4], 2),
   (85, rc_internal_strconv_ParseInt, [.tmp 6, .tmp 7], 3),
   (86, rc_strconv_syntaxError, [.tmp 4], 2),
   (87, rc_strconv_rangeError, [.tmp 4], 2),
   (88, rc_strconv_baseError, [.tmp 6], 3),
   (89, rc_strconv_bitSizeError, [.tmp 6], 3),
   (90, rc_internal_strconv_small, [.tmp 2], 1),
   (91, rc_internal_strconv_numDigits, [.tmp 2], 1),
   (92, rc_internal_strconv_formatBase10, [], 2),
   (93, rc_internal_strconv_formatBits, [.tmp 10, .tmp 11], 5),
   (96, rc_unicode_utf8_RuneCountInString, [.tmp 2], 1),
   (97, rc_unicode_utf8_DecodeRuneInString, [.tmp 2, .tmp 3], 1),
   (99, rc_internal_stringslite_Index, [.tmp 4], 2),
   (100, rc_internal_strconv_ParseUint, [.tmp 6, .tmp 7], 3),
   (101, rc_internal_stringslite_Clone, [.tmp 2], 1),
   (102, rc_errors_New, [.tmp 2], 1),
   (103, rc_internal_strconv_log10Pow2, [.tmp 2], 1),
   (104, rc_math_bits_Len64, [.tmp 2], 1),
   (105, rc_internal_strconv_bool2_int, [.tmp 2], 1),
   (106, rc_internal_strconv_isPowerOfTwo, [.tmp 2], 1),
   (107, rc_math_bits_TrailingZeros, [.tmp 2], 1),
   (108, rc_unicode_utf8_decodeRuneInStringSlow, [.tmp 2, .tmp 3], 1),
   (109, rc_internal_stringslite_IndexByte, [.tmp 4], 2),
   (111, rc_internal_bytealg_Cutover, [.tmp 2], 1),
   (112, rc_internal_bytealg_IndexRabinKarp_string, [.tmp 4], 2),
   (113, rc_internal_strconv_lower, [.tmp 2], 1),
   (114, rc_internal_strconv_underscoreOK, [.tmp 2], 1),
   (115, rc_math_bits_TrailingZeros32, [.tmp 2], 1),
   (116, rc_math_bits_TrailingZeros64, [.tmp 2], 1),
   (118, rc_internal_bytealg_hashStr_string, [.tmp 2, .tmp 3], 1)]
theorem tabOk : TabOk Tryd.prog tab :=
  .cons t_reevelaw9_PathKnown <|
  .cons t_reevelaw9_awake <|
  .cons t_path_Good <|
  .cons t_path_Word <|
  .cons t_reevelaw9_ints <|
  .cons t_path_Text <|
  .cons t_path_Begins <|
  .cons t_path_Get <|
  .cons t_path_Parse <|
  .cons t_path_Good_1 <|
  .cons t_slices_ContainsFunc_S_int_int <|
  .cons t_strconv_Itoa <|
  .cons t_strings_Join <|
  .cons t_slices_Equal_S_int_int <|
  .cons t_strings_SplitN <|
  .cons t_strconv_Atoi <|
  .cons t_slices_IndexFunc_S_int_int <|
  .cons t_internal_strconv_Itoa <|
  .cons t_P_strings_Builder_Grow <|
  .cons t_P_strings_Builder_WriteString <|
  .cons t_P_strings_Builder_String <|
  .cons t_strings_genSplit <|
  .cons t_internal_strconv_Atoi <|
  .cons t_strconv_toError <|
  .cons t_internal_strconv_FormatInt <|
  .cons t_P_strings_Builder_grow <|
  .cons t_strings_explode <|
  .cons t_strings_Count <|
  .cons t_strings_Index <|
  .cons t_internal_strconv_ParseInt <|
  .cons t_strconv_syntaxError <|
  .cons t_strconv_rangeError <|
  .cons t_strconv_baseError <|
  .cons t_strconv_bitSizeError <|
  .cons t_internal_strconv_small <|
  .cons t_internal_strconv_numDigits <|
  .cons t_internal_strconv_formatBase10 <|
  .cons t_internal_strconv_formatBits <|
  .cons t_unicode_utf8_RuneCountInString <|
  .cons t_unicode_utf8_DecodeRuneInString <|
  .cons t_internal_stringslite_Index <|
  .cons t_internal_strconv_ParseUint <|
  .cons t_internal_stringslite_Clone <|
  .cons t_errors_New <|
  .cons t_internal_strconv_log10Pow2 <|
  .cons t_math_bits_Len64 <|
  .cons t_internal_strconv_bool2_int <|
  .cons t_internal_strconv_isPowerOfTwo <|
  .cons t_math_bits_TrailingZeros <|
  .cons t_unicode_utf8_decodeRuneInStringSlow <|
  .cons t_internal_stringslite_IndexByte <|
  .cons t_internal_bytealg_Cutover <|
  .cons t_internal_bytealg_IndexRabinKarp_string <|
  .cons t_internal_strconv_lower <|
  .cons t_internal_strconv_underscoreOK <|
  .cons t_math_bits_TrailingZeros32 <|
  .cons t_math_bits_TrailingZeros64 <|
  .cons t_internal_bytealg_hashStr_string <| .nil

end Go.Proofs.YtfcbhgiccgommaaDoor.F9K
