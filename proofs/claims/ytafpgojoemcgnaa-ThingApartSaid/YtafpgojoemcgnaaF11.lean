/- Functions of the program made ready for walking, each with its proof; facts of types. Written by gen2.py. -/
import Derived.Test.YtafpgojoemcgnaaProg
import Derived.Test.YtafpgojoemcgnaaAbsC
set_option linter.unusedVariables false
set_option maxRecDepth 100000
namespace Go.Proofs.Ytafpgojoemcgnaa.F11
open Go Go.Proofs Go.Proofs.YtafpgojoemcgnaaAbs
theorem hm : Try.prog.follows .mixedOrders = true := by kernel_rfl
abbrev T_int : TypeId := 3
theorem ts_int : tsize Try.prog 3 = some 1 := by kernel_rfl
theorem tb_int : tbytes Try.prog 3 = some 8 := by kernel_rfl
theorem ta_int : tagg Try.prog 3 = some false := by kernel_rfl
theorem tz_int : zeroFlat Try.prog 3 = some [.int .i64 0] := by kernel_rfl
theorem tv_int : tzero Try.prog 3 = some (.int .i64 0) := by kernel_rfl
theorem tu_int : Try.prog.underlying 3 = some (.int .i64) := by kernel_rfl
abbrev T_bool : TypeId := 4
theorem ts_bool : tsize Try.prog 4 = some 1 := by kernel_rfl
theorem tb_bool : tbytes Try.prog 4 = some 1 := by kernel_rfl
theorem ta_bool : tagg Try.prog 4 = some false := by kernel_rfl
theorem tz_bool : zeroFlat Try.prog 4 = some [.bool false] := by kernel_rfl
theorem tv_bool : tzero Try.prog 4 = some (.bool false) := by kernel_rfl
theorem tu_bool : Try.prog.underlying 4 = some (.bool) := by kernel_rfl
abbrev T_uint64 : TypeId := 23
theorem ts_uint64 : tsize Try.prog 23 = some 1 := by kernel_rfl
theorem tb_uint64 : tbytes Try.prog 23 = some 8 := by kernel_rfl
theorem ta_uint64 : tagg Try.prog 23 = some false := by kernel_rfl
theorem tz_uint64 : zeroFlat Try.prog 23 = some [.int .u64 0] := by kernel_rfl
theorem tv_uint64 : tzero Try.prog 23 = some (.int .u64 0) := by kernel_rfl
theorem tu_uint64 : Try.prog.underlying 23 = some (.int .u64) := by kernel_rfl
abbrev T_A4_uint64 : TypeId := 24
theorem te_A4_uint64 : eqOk Try.prog 24 = some [.int .u64, .int .u64, .int .u64, .int .u64] := by kernel_rfl
theorem ts_A4_uint64 : tsize Try.prog 24 = some 4 := by kernel_rfl
theorem tb_A4_uint64 : tbytes Try.prog 24 = some 32 := by kernel_rfl
theorem ta_A4_uint64 : tagg Try.prog 24 = some true := by kernel_rfl
theorem tz_A4_uint64 : zeroFlat Try.prog 24 = some [.int .u64 0, .int .u64 0, .int .u64 0, .int .u64 0] := by kernel_rfl
theorem tv_A4_uint64 : tzero Try.prog 24 = some (.agg #[.int .u64 0, .int .u64 0, .int .u64 0, .int .u64 0]) := by kernel_rfl
theorem tu_A4_uint64 : Try.prog.underlying 24 = some (.array 4 23) := by kernel_rfl
abbrev T_thing_Thing : TypeId := 26
theorem te_thing_Thing : eqOk Try.prog 26 = some [.int .i64, .int .i64, .int .i64, .int .i64, .int .i64, .int .i64, .int .i64, .bool, .int .u64, .int .u64, .int .u64, .int .u64, .int .u64] := by kernel_rfl
theorem ts_thing_Thing : tsize Try.prog 26 = some 13 := by kernel_rfl
theorem tb_thing_Thing : tbytes Try.prog 26 = some 104 := by kernel_rfl
theorem ta_thing_Thing : tagg Try.prog 26 = some true := by kernel_rfl
theorem tz_thing_Thing : zeroFlat Try.prog 26 = some [.int .i64 0, .int .i64 0, .int .i64 0, .int .i64 0, .int .i64 0, .int .i64 0, .int .i64 0, .bool false, .int .u64 0, .int .u64 0, .int .u64 0, .int .u64 0, .int .u64 0] := by kernel_rfl
theorem tv_thing_Thing : tzero Try.prog 26 = some (.agg #[.int .i64 0, .int .i64 0, .int .i64 0, .int .i64 0, .int .i64 0, .int .i64 0, .int .i64 0, .bool false, .int .u64 0, .int .u64 0, .int .u64 0, .int .u64 0, .int .u64 0]) := by kernel_rfl
theorem tp_thing_Thing : tplaces Try.prog 26 = some [(0, 1), (1, 1), (2, 1), (3, 1), (4, 1), (5, 1), (6, 1), (7, 1), (8, 1), (9, 4)] := by kernel_rfl
theorem tf_thing_Thing_Type : tfield Try.prog 26 0 = some (3, 0) := by kernel_rfl
theorem tg_thing_Thing_Type : tfield' Try.prog 26 0 = some (3, 0) := by kernel_rfl
theorem tf_thing_Thing_Bits : tfield Try.prog 26 1 = some (3, 1) := by kernel_rfl
theorem tg_thing_Thing_Bits : tfield' Try.prog 26 1 = some (3, 1) := by kernel_rfl
theorem tf_thing_Thing_Base : tfield Try.prog 26 2 = some (3, 2) := by kernel_rfl
theorem tg_thing_Thing_Base : tfield' Try.prog 26 2 = some (3, 2) := by kernel_rfl
theorem tf_thing_Thing_Size : tfield Try.prog 26 3 = some (3, 3) := by kernel_rfl
theorem tg_thing_Thing_Size : tfield' Try.prog 26 3 = some (3, 3) := by kernel_rfl
theorem tf_thing_Thing_Used : tfield Try.prog 26 4 = some (3, 4) := by kernel_rfl
theorem tg_thing_Thing_Used : tfield' Try.prog 26 4 = some (3, 4) := by kernel_rfl
theorem tf_thing_Thing_From : tfield Try.prog 26 5 = some (3, 5) := by kernel_rfl
theorem tg_thing_Thing_From : tfield' Try.prog 26 5 = some (3, 5) := by kernel_rfl
theorem tf_thing_Thing_Badge : tfield Try.prog 26 6 = some (3, 6) := by kernel_rfl
theorem tg_thing_Thing_Badge : tfield' Try.prog 26 6 = some (3, 6) := by kernel_rfl
theorem tf_thing_Thing_Full : tfield Try.prog 26 7 = some (4, 7) := by kernel_rfl
theorem tg_thing_Thing_Full : tfield' Try.prog 26 7 = some (4, 7) := by kernel_rfl
theorem tf_thing_Thing_Word : tfield Try.prog 26 8 = some (23, 8) := by kernel_rfl
theorem tg_thing_Thing_Word : tfield' Try.prog 26 8 = some (23, 8) := by kernel_rfl
theorem tf_thing_Thing_Data : tfield Try.prog 26 9 = some (24, 9) := by kernel_rfl
theorem tg_thing_Thing_Data : tfield' Try.prog 26 9 = some (24, 9) := by kernel_rfl
abbrev T_S_thing_Thing : TypeId := 27
theorem ts_S_thing_Thing : tsize Try.prog 27 = some 1 := by kernel_rfl
theorem tb_S_thing_Thing : tbytes Try.prog 27 = some 24 := by kernel_rfl
theorem ta_S_thing_Thing : tagg Try.prog 27 = some false := by kernel_rfl
theorem tz_S_thing_Thing : zeroFlat Try.prog 27 = some [.slice none 0 0] := by kernel_rfl
theorem tv_S_thing_Thing : tzero Try.prog 27 = some (.slice none 0 0) := by kernel_rfl
theorem tu_S_thing_Thing : Try.prog.underlying 27 = some (.slice 26) := by kernel_rfl
abbrev T_S_uint64 : TypeId := 29
theorem ts_S_uint64 : tsize Try.prog 29 = some 1 := by kernel_rfl
theorem tb_S_uint64 : tbytes Try.prog 29 = some 24 := by kernel_rfl
theorem ta_S_uint64 : tagg Try.prog 29 = some false := by kernel_rfl
theorem tz_S_uint64 : zeroFlat Try.prog 29 = some [.slice none 0 0] := by kernel_rfl
theorem tv_S_uint64 : tzero Try.prog 29 = some (.slice none 0 0) := by kernel_rfl
theorem tu_S_uint64 : Try.prog.underlying 29 = some (.slice 23) := by kernel_rfl
abbrev T_reeveref11_Thing : TypeId := 36
theorem te_reeveref11_Thing : eqOk Try.prog 36 = some [.int .i64, .int .i64, .int .i64, .int .i64, .int .i64, .int .i64, .int .i64, .bool, .int .u64, .int .u64, .int .u64, .int .u64, .int .u64] := by kernel_rfl
theorem ts_reeveref11_Thing : tsize Try.prog 36 = some 13 := by kernel_rfl
theorem tb_reeveref11_Thing : tbytes Try.prog 36 = some 104 := by kernel_rfl
theorem ta_reeveref11_Thing : tagg Try.prog 36 = some true := by kernel_rfl
theorem tz_reeveref11_Thing : zeroFlat Try.prog 36 = some [.int .i64 0, .int .i64 0, .int .i64 0, .int .i64 0, .int .i64 0, .int .i64 0, .int .i64 0, .bool false, .int .u64 0, .int .u64 0, .int .u64 0, .int .u64 0, .int .u64 0] := by kernel_rfl
theorem tv_reeveref11_Thing : tzero Try.prog 36 = some (.agg #[.int .i64 0, .int .i64 0, .int .i64 0, .int .i64 0, .int .i64 0, .int .i64 0, .int .i64 0, .bool false, .int .u64 0, .int .u64 0, .int .u64 0, .int .u64 0, .int .u64 0]) := by kernel_rfl
theorem tp_reeveref11_Thing : tplaces Try.prog 36 = some [(0, 1), (1, 1), (2, 1), (3, 1), (4, 1), (5, 1), (6, 1), (7, 1), (8, 1), (9, 4)] := by kernel_rfl
theorem tf_reeveref11_Thing_Type : tfield Try.prog 36 0 = some (3, 0) := by kernel_rfl
theorem tg_reeveref11_Thing_Type : tfield' Try.prog 36 0 = some (3, 0) := by kernel_rfl
theorem tf_reeveref11_Thing_Bits : tfield Try.prog 36 1 = some (3, 1) := by kernel_rfl
theorem tg_reeveref11_Thing_Bits : tfield' Try.prog 36 1 = some (3, 1) := by kernel_rfl
theorem tf_reeveref11_Thing_Base : tfield Try.prog 36 2 = some (3, 2) := by kernel_rfl
theorem tg_reeveref11_Thing_Base : tfield' Try.prog 36 2 = some (3, 2) := by kernel_rfl
theorem tf_reeveref11_Thing_Size : tfield Try.prog 36 3 = some (3, 3) := by kernel_rfl
theorem tg_reeveref11_Thing_Size : tfield' Try.prog 36 3 = some (3, 3) := by kernel_rfl
theorem tf_reeveref11_Thing_Used : tfield Try.prog 36 4 = some (3, 4) := by kernel_rfl
theorem tg_reeveref11_Thing_Used : tfield' Try.prog 36 4 = some (3, 4) := by kernel_rfl
theorem tf_reeveref11_Thing_From : tfield Try.prog 36 5 = some (3, 5) := by kernel_rfl
theorem tg_reeveref11_Thing_From : tfield' Try.prog 36 5 = some (3, 5) := by kernel_rfl
theorem tf_reeveref11_Thing_Badge : tfield Try.prog 36 6 = some (3, 6) := by kernel_rfl
theorem tg_reeveref11_Thing_Badge : tfield' Try.prog 36 6 = some (3, 6) := by kernel_rfl
theorem tf_reeveref11_Thing_Full : tfield Try.prog 36 7 = some (4, 7) := by kernel_rfl
theorem tg_reeveref11_Thing_Full : tfield' Try.prog 36 7 = some (4, 7) := by kernel_rfl
theorem tf_reeveref11_Thing_Word : tfield Try.prog 36 8 = some (23, 8) := by kernel_rfl
theorem tg_reeveref11_Thing_Word : tfield' Try.prog 36 8 = some (23, 8) := by kernel_rfl
theorem tf_reeveref11_Thing_Data : tfield Try.prog 36 9 = some (24, 9) := by kernel_rfl
theorem tg_reeveref11_Thing_Data : tfield' Try.prog 36 9 = some (24, 9) := by kernel_rfl
abbrev T_S_tag_Field : TypeId := 85
abbrev T_tag_Field : TypeId := 100
theorem te_tag_Field : eqOk Try.prog 100 = some [.int .i64, .int .i64] := by kernel_rfl
theorem ts_tag_Field : tsize Try.prog 100 = some 2 := by kernel_rfl
theorem tb_tag_Field : tbytes Try.prog 100 = some 16 := by kernel_rfl
theorem ta_tag_Field : tagg Try.prog 100 = some true := by kernel_rfl
theorem tz_tag_Field : zeroFlat Try.prog 100 = some [.int .i64 0, .int .i64 0] := by kernel_rfl
theorem tv_tag_Field : tzero Try.prog 100 = some (.agg #[.int .i64 0, .int .i64 0]) := by kernel_rfl
theorem tp_tag_Field : tplaces Try.prog 100 = some [(0, 1), (1, 1)] := by kernel_rfl
theorem tf_tag_Field_From : tfield Try.prog 100 0 = some (3, 0) := by kernel_rfl
theorem tg_tag_Field_From : tfield' Try.prog 100 0 = some (3, 0) := by kernel_rfl
theorem tf_tag_Field_Len : tfield Try.prog 100 1 = some (3, 1) := by kernel_rfl
theorem tg_tag_Field_Len : tfield' Try.prog 100 1 = some (3, 1) := by kernel_rfl
theorem ts_S_tag_Field : tsize Try.prog 85 = some 1 := by kernel_rfl
theorem tb_S_tag_Field : tbytes Try.prog 85 = some 24 := by kernel_rfl
theorem ta_S_tag_Field : tagg Try.prog 85 = some false := by kernel_rfl
theorem tz_S_tag_Field : zeroFlat Try.prog 85 = some [.slice none 0 0] := by kernel_rfl
theorem tv_S_tag_Field : tzero Try.prog 85 = some (.slice none 0 0) := by kernel_rfl
theorem tu_S_tag_Field : Try.prog.underlying 85 = some (.slice 100) := by kernel_rfl
theorem beq_A4_uint64 : ∀ (xo yo : Operand) (xs ys : List Value), fitsB [.int .u64, .int .u64, .int .u64, .int .u64] xs = true → fitsB [.int .u64, .int .u64, .int .u64, .int .u64] ys = true → aBin Try.prog .eql 24 xo yo (.agg xs.toArray) (.agg ys.toArray) = some (.bool (cellsEq xs ys)) := fun _ _ _ _ hx hy => bin_eql_agg te_A4_uint64 ta_A4_uint64 hx hy
theorem bne_A4_uint64 : ∀ (xo yo : Operand) (xs ys : List Value), fitsB [.int .u64, .int .u64, .int .u64, .int .u64] xs = true → fitsB [.int .u64, .int .u64, .int .u64, .int .u64] ys = true → aBin Try.prog .neq 24 xo yo (.agg xs.toArray) (.agg ys.toArray) = some (.bool (!cellsEq xs ys)) := fun _ _ _ _ hx hy => bin_neq_agg te_A4_uint64 ta_A4_uint64 hx hy
theorem bs_A4_uint64 : ∀ (ty : TypeId) (ev : Operand → Value) (g : AMem) (n : Nat) (parts : Array (Nat × Operand)), aOp Try.prog ty ev g n (.build 24 parts) = (fillS 1 [.int .u64 0, .int .u64 0, .int .u64 0, .int .u64 0] (parts.toList.map fun p => (p.1, ev p.2))).map fun cs => (.agg cs.toArray, .none) := aOp_buildA tz_A4_uint64 tu_A4_uint64 ts_uint64
theorem ia_A4_uint64 : ∀ (b o : Nat) (i : Int), aIndexAddrR Try.prog (some (.array 4 23)) (.pointer (some ⟨b, o, none⟩)) i = if 0 ≤ i ∧ i < (4 : Nat) then some (.pointer (some ⟨b, o + i.toNat * 1, none⟩)) else none := fun b o i => aIndexAddrR_array i ts_uint64
theorem sl_A4_uint64 : ∀ (ty : TypeId) (ev : Operand → Value) (g : AMem) (n : Nat) (x : Operand), aOp Try.prog ty ev g n (.slice 24 x none none none) = (saR g 4 1 (ev x)).map fun v => (v, .none) := aOp_sliceA tu_A4_uint64 ts_uint64
theorem beq_thing_Thing : ∀ (xo yo : Operand) (xs ys : List Value), fitsB [.int .i64, .int .i64, .int .i64, .int .i64, .int .i64, .int .i64, .int .i64, .bool, .int .u64, .int .u64, .int .u64, .int .u64, .int .u64] xs = true → fitsB [.int .i64, .int .i64, .int .i64, .int .i64, .int .i64, .int .i64, .int .i64, .bool, .int .u64, .int .u64, .int .u64, .int .u64, .int .u64] ys = true → aBin Try.prog .eql 26 xo yo (.agg xs.toArray) (.agg ys.toArray) = some (.bool (cellsEq xs ys)) := fun _ _ _ _ hx hy => bin_eql_agg te_thing_Thing ta_thing_Thing hx hy
theorem bne_thing_Thing : ∀ (xo yo : Operand) (xs ys : List Value), fitsB [.int .i64, .int .i64, .int .i64, .int .i64, .int .i64, .int .i64, .int .i64, .bool, .int .u64, .int .u64, .int .u64, .int .u64, .int .u64] xs = true → fitsB [.int .i64, .int .i64, .int .i64, .int .i64, .int .i64, .int .i64, .int .i64, .bool, .int .u64, .int .u64, .int .u64, .int .u64, .int .u64] ys = true → aBin Try.prog .neq 26 xo yo (.agg xs.toArray) (.agg ys.toArray) = some (.bool (!cellsEq xs ys)) := fun _ _ _ _ hx hy => bin_neq_agg te_thing_Thing ta_thing_Thing hx hy
theorem bs_thing_Thing : ∀ (ty : TypeId) (ev : Operand → Value) (g : AMem) (n : Nat) (parts : Array (Nat × Operand)), aOp Try.prog ty ev g n (.build 26 parts) = (fillP [(0, 1), (1, 1), (2, 1), (3, 1), (4, 1), (5, 1), (6, 1), (7, 1), (8, 1), (9, 4)] [.int .i64 0, .int .i64 0, .int .i64 0, .int .i64 0, .int .i64 0, .int .i64 0, .int .i64 0, .bool false, .int .u64 0, .int .u64 0, .int .u64 0, .int .u64 0, .int .u64 0] (parts.toList.map fun p => (p.1, ev p.2))).map fun cs => (.agg cs.toArray, .none) := aOp_buildS tz_thing_Thing tp_thing_Thing
theorem bl_S_thing_Thing : ∀ (ty : TypeId) (ev : Operand → Value) (g : AMem) (n : Nat) (len : Nat) (parts : Array (Nat × Operand)), len * 13 ≤ 16777216 → aOp Try.prog ty ev g n (.buildSlice 27 len parts) = (fillS 13 (zeroRow [.int .i64 0, .int .i64 0, .int .i64 0, .int .i64 0, .int .i64 0, .int .i64 0, .int .i64 0, .bool false, .int .u64 0, .int .u64 0, .int .u64 0, .int .u64 0, .int .u64 0] len) (parts.toList.map fun p => (p.1, ev p.2))).map fun cs => (.slice (some ⟨n, 0, none⟩) len 13, .new (.row cs true)) := fun ty ev g n len parts hb => aOp_buildL tu_S_thing_Thing tz_thing_Thing ts_thing_Thing rfl ty ev g n len parts hb
theorem ap_S_thing_Thing : ∀ (g : AMem) (n : Nat) (s x : Value), aAppend Try.prog g n 27 s x = appR g n 12 104 s (aRead g 13 x) := inst_append tu_S_thing_Thing ts_thing_Thing tb_thing_Thing tv_thing_Thing rfl
theorem mk_S_thing_Thing : ∀ (n : Nat) (k k' : IntKind) (l c : Int), aMake Try.prog n 27 (.int k l) (.int k' c) = if 0 ≤ l ∧ l ≤ c ∧ c ≤ 70368744177664 ∧ 104 * c.toNat ≤ 70368744177664 then some (.slice (some ⟨n, 0, none⟩) l.toNat 13, .new (.row (zeroRow [.int .i64 0, .int .i64 0, .int .i64 0, .int .i64 0, .int .i64 0, .int .i64 0, .int .i64 0, .bool false, .int .u64 0, .int .u64 0, .int .u64 0, .int .u64 0, .int .u64 0] l.toNat) true)) else none := inst_make tu_S_thing_Thing ts_thing_Thing tb_thing_Thing tv_thing_Thing rfl rfl
theorem sl_S_thing_Thing : ∀ (ty : TypeId) (ev : Operand → Value) (g : AMem) (n : Nat) (x : Operand) (lo hi : Option Operand), aOp Try.prog ty ev g n (.slice 27 x lo hi none) = (slR 13 (ev x) (lo.map ev) (hi.map ev)).map fun v => (v, .none) := aOp_sliceS tu_S_thing_Thing ts_thing_Thing
theorem cp_S_thing_Thing : ∀ (g : AMem) (d s : Value), aCopy Try.prog g 27 d s = cpR g 13 d (aRead g 13 s) := aCopy_eq tu_S_thing_Thing ts_thing_Thing
theorem bl_S_uint64 : ∀ (ty : TypeId) (ev : Operand → Value) (g : AMem) (n : Nat) (len : Nat) (parts : Array (Nat × Operand)), len * 1 ≤ 16777216 → aOp Try.prog ty ev g n (.buildSlice 29 len parts) = (fillS 1 (zeroRow [.int .u64 0] len) (parts.toList.map fun p => (p.1, ev p.2))).map fun cs => (.slice (some ⟨n, 0, none⟩) len 1, .new (.row cs true)) := fun ty ev g n len parts hb => aOp_buildL tu_S_uint64 tz_uint64 ts_uint64 rfl ty ev g n len parts hb
theorem ap_S_uint64 : ∀ (g : AMem) (n : Nat) (s x : Value), aAppend Try.prog g n 29 s x = appR g n 0 8 s (aRead g 1 x) := inst_append tu_S_uint64 ts_uint64 tb_uint64 tv_uint64 rfl
theorem mk_S_uint64 : ∀ (n : Nat) (k k' : IntKind) (l c : Int), aMake Try.prog n 29 (.int k l) (.int k' c) = if 0 ≤ l ∧ l ≤ c ∧ c ≤ 70368744177664 ∧ 8 * c.toNat ≤ 70368744177664 then some (.slice (some ⟨n, 0, none⟩) l.toNat 1, .new (.row (zeroRow [.int .u64 0] l.toNat) true)) else none := inst_make tu_S_uint64 ts_uint64 tb_uint64 tv_uint64 rfl rfl
theorem sl_S_uint64 : ∀ (ty : TypeId) (ev : Operand → Value) (g : AMem) (n : Nat) (x : Operand) (lo hi : Option Operand), aOp Try.prog ty ev g n (.slice 29 x lo hi none) = (slR 1 (ev x) (lo.map ev) (hi.map ev)).map fun v => (v, .none) := aOp_sliceS tu_S_uint64 ts_uint64
theorem cp_S_uint64 : ∀ (g : AMem) (d s : Value), aCopy Try.prog g 29 d s = cpR g 1 d (aRead g 1 s) := aCopy_eq tu_S_uint64 ts_uint64
theorem beq_reeveref11_Thing : ∀ (xo yo : Operand) (xs ys : List Value), fitsB [.int .i64, .int .i64, .int .i64, .int .i64, .int .i64, .int .i64, .int .i64, .bool, .int .u64, .int .u64, .int .u64, .int .u64, .int .u64] xs = true → fitsB [.int .i64, .int .i64, .int .i64, .int .i64, .int .i64, .int .i64, .int .i64, .bool, .int .u64, .int .u64, .int .u64, .int .u64, .int .u64] ys = true → aBin Try.prog .eql 36 xo yo (.agg xs.toArray) (.agg ys.toArray) = some (.bool (cellsEq xs ys)) := fun _ _ _ _ hx hy => bin_eql_agg te_reeveref11_Thing ta_reeveref11_Thing hx hy
theorem bne_reeveref11_Thing : ∀ (xo yo : Operand) (xs ys : List Value), fitsB [.int .i64, .int .i64, .int .i64, .int .i64, .int .i64, .int .i64, .int .i64, .bool, .int .u64, .int .u64, .int .u64, .int .u64, .int .u64] xs = true → fitsB [.int .i64, .int .i64, .int .i64, .int .i64, .int .i64, .int .i64, .int .i64, .bool, .int .u64, .int .u64, .int .u64, .int .u64, .int .u64] ys = true → aBin Try.prog .neq 36 xo yo (.agg xs.toArray) (.agg ys.toArray) = some (.bool (!cellsEq xs ys)) := fun _ _ _ _ hx hy => bin_neq_agg te_reeveref11_Thing ta_reeveref11_Thing hx hy
theorem bs_reeveref11_Thing : ∀ (ty : TypeId) (ev : Operand → Value) (g : AMem) (n : Nat) (parts : Array (Nat × Operand)), aOp Try.prog ty ev g n (.build 36 parts) = (fillP [(0, 1), (1, 1), (2, 1), (3, 1), (4, 1), (5, 1), (6, 1), (7, 1), (8, 1), (9, 4)] [.int .i64 0, .int .i64 0, .int .i64 0, .int .i64 0, .int .i64 0, .int .i64 0, .int .i64 0, .bool false, .int .u64 0, .int .u64 0, .int .u64 0, .int .u64 0, .int .u64 0] (parts.toList.map fun p => (p.1, ev p.2))).map fun cs => (.agg cs.toArray, .none) := aOp_buildS tz_reeveref11_Thing tp_reeveref11_Thing
theorem beq_tag_Field : ∀ (xo yo : Operand) (xs ys : List Value), fitsB [.int .i64, .int .i64] xs = true → fitsB [.int .i64, .int .i64] ys = true → aBin Try.prog .eql 100 xo yo (.agg xs.toArray) (.agg ys.toArray) = some (.bool (cellsEq xs ys)) := fun _ _ _ _ hx hy => bin_eql_agg te_tag_Field ta_tag_Field hx hy
theorem bne_tag_Field : ∀ (xo yo : Operand) (xs ys : List Value), fitsB [.int .i64, .int .i64] xs = true → fitsB [.int .i64, .int .i64] ys = true → aBin Try.prog .neq 100 xo yo (.agg xs.toArray) (.agg ys.toArray) = some (.bool (!cellsEq xs ys)) := fun _ _ _ _ hx hy => bin_neq_agg te_tag_Field ta_tag_Field hx hy
theorem bs_tag_Field : ∀ (ty : TypeId) (ev : Operand → Value) (g : AMem) (n : Nat) (parts : Array (Nat × Operand)), aOp Try.prog ty ev g n (.build 100 parts) = (fillP [(0, 1), (1, 1)] [.int .i64 0, .int .i64 0] (parts.toList.map fun p => (p.1, ev p.2))).map fun cs => (.agg cs.toArray, .none) := aOp_buildS tz_tag_Field tp_tag_Field
theorem bl_S_tag_Field : ∀ (ty : TypeId) (ev : Operand → Value) (g : AMem) (n : Nat) (len : Nat) (parts : Array (Nat × Operand)), len * 2 ≤ 16777216 → aOp Try.prog ty ev g n (.buildSlice 85 len parts) = (fillS 2 (zeroRow [.int .i64 0, .int .i64 0] len) (parts.toList.map fun p => (p.1, ev p.2))).map fun cs => (.slice (some ⟨n, 0, none⟩) len 2, .new (.row cs true)) := fun ty ev g n len parts hb => aOp_buildL tu_S_tag_Field tz_tag_Field ts_tag_Field rfl ty ev g n len parts hb
theorem ap_S_tag_Field : ∀ (g : AMem) (n : Nat) (s x : Value), aAppend Try.prog g n 85 s x = appR g n 1 16 s (aRead g 2 x) := inst_append tu_S_tag_Field ts_tag_Field tb_tag_Field tv_tag_Field rfl
theorem mk_S_tag_Field : ∀ (n : Nat) (k k' : IntKind) (l c : Int), aMake Try.prog n 85 (.int k l) (.int k' c) = if 0 ≤ l ∧ l ≤ c ∧ c ≤ 70368744177664 ∧ 16 * c.toNat ≤ 70368744177664 then some (.slice (some ⟨n, 0, none⟩) l.toNat 2, .new (.row (zeroRow [.int .i64 0, .int .i64 0] l.toNat) true)) else none := inst_make tu_S_tag_Field ts_tag_Field tb_tag_Field tv_tag_Field rfl rfl
theorem sl_S_tag_Field : ∀ (ty : TypeId) (ev : Operand → Value) (g : AMem) (n : Nat) (x : Operand) (lo hi : Option Operand), aOp Try.prog ty ev g n (.slice 85 x lo hi none) = (slR 2 (ev x) (lo.map ev) (hi.map ev)).map fun v => (v, .none) := aOp_sliceS tu_S_tag_Field ts_tag_Field
theorem cp_S_tag_Field : ∀ (g : AMem) (d s : Value), aCopy Try.prog g 85 d s = cpR g 2 d (aRead g 2 s) := aCopy_eq tu_S_tag_Field ts_tag_Field
theorem q_int : (tsize Try.prog 3 = some 1) ∧ (tagg Try.prog 3 = some false) ∧ (zeroFlat Try.prog 3 = some [.int .i64 0]) ∧ (Try.prog.underlying 3 = some (.int .i64)) := ⟨ts_int, ta_int, tz_int, tu_int⟩
theorem q_bool : (tsize Try.prog 4 = some 1) ∧ (tagg Try.prog 4 = some false) ∧ (zeroFlat Try.prog 4 = some [.bool false]) ∧ (Try.prog.underlying 4 = some (.bool)) := ⟨ts_bool, ta_bool, tz_bool, tu_bool⟩
theorem q_uint64 : (tsize Try.prog 23 = some 1) ∧ (tagg Try.prog 23 = some false) ∧ (zeroFlat Try.prog 23 = some [.int .u64 0]) ∧ (Try.prog.underlying 23 = some (.int .u64)) := ⟨ts_uint64, ta_uint64, tz_uint64, tu_uint64⟩
theorem q_A4_uint64 : (tsize Try.prog 24 = some 4) ∧ (tagg Try.prog 24 = some true) ∧ (zeroFlat Try.prog 24 = some [.int .u64 0, .int .u64 0, .int .u64 0, .int .u64 0]) ∧ (Try.prog.underlying 24 = some (.array 4 23)) ∧ (∀ (ty : TypeId) (ev : Operand → Value) (g : AMem) (n : Nat) (parts : Array (Nat × Operand)), aOp Try.prog ty ev g n (.build 24 parts) = (fillS 1 [.int .u64 0, .int .u64 0, .int .u64 0, .int .u64 0] (parts.toList.map fun p => (p.1, ev p.2))).map fun cs => (.agg cs.toArray, .none)) ∧ (∀ (b o : Nat) (i : Int), aIndexAddrR Try.prog (some (.array 4 23)) (.pointer (some ⟨b, o, none⟩)) i = if 0 ≤ i ∧ i < (4 : Nat) then some (.pointer (some ⟨b, o + i.toNat * 1, none⟩)) else none) ∧ (∀ (ty : TypeId) (ev : Operand → Value) (g : AMem) (n : Nat) (x : Operand), aOp Try.prog ty ev g n (.slice 24 x none none none) = (saR g 4 1 (ev x)).map fun v => (v, .none)) := ⟨ts_A4_uint64, ta_A4_uint64, tz_A4_uint64, tu_A4_uint64, bs_A4_uint64, ia_A4_uint64, sl_A4_uint64⟩
theorem q_thing_Thing : (tsize Try.prog 26 = some 13) ∧ (tagg Try.prog 26 = some true) ∧ (zeroFlat Try.prog 26 = some [.int .i64 0, .int .i64 0, .int .i64 0, .int .i64 0, .int .i64 0, .int .i64 0, .int .i64 0, .bool false, .int .u64 0, .int .u64 0, .int .u64 0, .int .u64 0, .int .u64 0]) ∧ (tplaces Try.prog 26 = some [(0, 1), (1, 1), (2, 1), (3, 1), (4, 1), (5, 1), (6, 1), (7, 1), (8, 1), (9, 4)]) ∧ (tfield Try.prog 26 0 = some (3, 0)) ∧ (tfield' Try.prog 26 0 = some (3, 0)) ∧ (tfield Try.prog 26 1 = some (3, 1)) ∧ (tfield' Try.prog 26 1 = some (3, 1)) ∧ (tfield Try.prog 26 2 = some (3, 2)) ∧ (tfield' Try.prog 26 2 = some (3, 2)) ∧ (tfield Try.prog 26 3 = some (3, 3)) ∧ (tfield' Try.prog 26 3 = some (3, 3)) ∧ (tfield Try.prog 26 4 = some (3, 4)) ∧ (tfield' Try.prog 26 4 = some (3, 4)) ∧ (tfield Try.prog 26 5 = some (3, 5)) ∧ (tfield' Try.prog 26 5 = some (3, 5)) ∧ (tfield Try.prog 26 6 = some (3, 6)) ∧ (tfield' Try.prog 26 6 = some (3, 6)) ∧ (tfield Try.prog 26 7 = some (4, 7)) ∧ (tfield' Try.prog 26 7 = some (4, 7)) ∧ (tfield Try.prog 26 8 = some (23, 8)) ∧ (tfield' Try.prog 26 8 = some (23, 8)) ∧ (tfield Try.prog 26 9 = some (24, 9)) ∧ (tfield' Try.prog 26 9 = some (24, 9)) ∧ (∀ (ty : TypeId) (ev : Operand → Value) (g : AMem) (n : Nat) (parts : Array (Nat × Operand)), aOp Try.prog ty ev g n (.build 26 parts) = (fillP [(0, 1), (1, 1), (2, 1), (3, 1), (4, 1), (5, 1), (6, 1), (7, 1), (8, 1), (9, 4)] [.int .i64 0, .int .i64 0, .int .i64 0, .int .i64 0, .int .i64 0, .int .i64 0, .int .i64 0, .bool false, .int .u64 0, .int .u64 0, .int .u64 0, .int .u64 0, .int .u64 0] (parts.toList.map fun p => (p.1, ev p.2))).map fun cs => (.agg cs.toArray, .none)) := ⟨ts_thing_Thing, ta_thing_Thing, tz_thing_Thing, tp_thing_Thing, tf_thing_Thing_Type, tg_thing_Thing_Type, tf_thing_Thing_Bits, tg_thing_Thing_Bits, tf_thing_Thing_Base, tg_thing_Thing_Base, tf_thing_Thing_Size, tg_thing_Thing_Size, tf_thing_Thing_Used, tg_thing_Thing_Used, tf_thing_Thing_From, tg_thing_Thing_From, tf_thing_Thing_Badge, tg_thing_Thing_Badge, tf_thing_Thing_Full, tg_thing_Thing_Full, tf_thing_Thing_Word, tg_thing_Thing_Word, tf_thing_Thing_Data, tg_thing_Thing_Data, bs_thing_Thing⟩
theorem q_S_thing_Thing : (tsize Try.prog 27 = some 1) ∧ (tagg Try.prog 27 = some false) ∧ (zeroFlat Try.prog 27 = some [.slice none 0 0]) ∧ (Try.prog.underlying 27 = some (.slice 26)) ∧ (∀ (ty : TypeId) (ev : Operand → Value) (g : AMem) (n : Nat) (len : Nat) (parts : Array (Nat × Operand)), len * 13 ≤ 16777216 → aOp Try.prog ty ev g n (.buildSlice 27 len parts) = (fillS 13 (zeroRow [.int .i64 0, .int .i64 0, .int .i64 0, .int .i64 0, .int .i64 0, .int .i64 0, .int .i64 0, .bool false, .int .u64 0, .int .u64 0, .int .u64 0, .int .u64 0, .int .u64 0] len) (parts.toList.map fun p => (p.1, ev p.2))).map fun cs => (.slice (some ⟨n, 0, none⟩) len 13, .new (.row cs true))) ∧ (∀ (g : AMem) (n : Nat) (s x : Value), aAppend Try.prog g n 27 s x = appR g n 12 104 s (aRead g 13 x)) ∧ (∀ (n : Nat) (k k' : IntKind) (l c : Int), aMake Try.prog n 27 (.int k l) (.int k' c) = if 0 ≤ l ∧ l ≤ c ∧ c ≤ 70368744177664 ∧ 104 * c.toNat ≤ 70368744177664 then some (.slice (some ⟨n, 0, none⟩) l.toNat 13, .new (.row (zeroRow [.int .i64 0, .int .i64 0, .int .i64 0, .int .i64 0, .int .i64 0, .int .i64 0, .int .i64 0, .bool false, .int .u64 0, .int .u64 0, .int .u64 0, .int .u64 0, .int .u64 0] l.toNat) true)) else none) ∧ (∀ (ty : TypeId) (ev : Operand → Value) (g : AMem) (n : Nat) (x : Operand) (lo hi : Option Operand), aOp Try.prog ty ev g n (.slice 27 x lo hi none) = (slR 13 (ev x) (lo.map ev) (hi.map ev)).map fun v => (v, .none)) ∧ (∀ (g : AMem) (d s : Value), aCopy Try.prog g 27 d s = cpR g 13 d (aRead g 13 s)) := ⟨ts_S_thing_Thing, ta_S_thing_Thing, tz_S_thing_Thing, tu_S_thing_Thing, bl_S_thing_Thing, ap_S_thing_Thing, mk_S_thing_Thing, sl_S_thing_Thing, cp_S_thing_Thing⟩
theorem q_S_uint64 : (tsize Try.prog 29 = some 1) ∧ (tagg Try.prog 29 = some false) ∧ (zeroFlat Try.prog 29 = some [.slice none 0 0]) ∧ (Try.prog.underlying 29 = some (.slice 23)) ∧ (∀ (ty : TypeId) (ev : Operand → Value) (g : AMem) (n : Nat) (len : Nat) (parts : Array (Nat × Operand)), len * 1 ≤ 16777216 → aOp Try.prog ty ev g n (.buildSlice 29 len parts) = (fillS 1 (zeroRow [.int .u64 0] len) (parts.toList.map fun p => (p.1, ev p.2))).map fun cs => (.slice (some ⟨n, 0, none⟩) len 1, .new (.row cs true))) ∧ (∀ (g : AMem) (n : Nat) (s x : Value), aAppend Try.prog g n 29 s x = appR g n 0 8 s (aRead g 1 x)) ∧ (∀ (n : Nat) (k k' : IntKind) (l c : Int), aMake Try.prog n 29 (.int k l) (.int k' c) = if 0 ≤ l ∧ l ≤ c ∧ c ≤ 70368744177664 ∧ 8 * c.toNat ≤ 70368744177664 then some (.slice (some ⟨n, 0, none⟩) l.toNat 1, .new (.row (zeroRow [.int .u64 0] l.toNat) true)) else none) ∧ (∀ (ty : TypeId) (ev : Operand → Value) (g : AMem) (n : Nat) (x : Operand) (lo hi : Option Operand), aOp Try.prog ty ev g n (.slice 29 x lo hi none) = (slR 1 (ev x) (lo.map ev) (hi.map ev)).map fun v => (v, .none)) ∧ (∀ (g : AMem) (d s : Value), aCopy Try.prog g 29 d s = cpR g 1 d (aRead g 1 s)) := ⟨ts_S_uint64, ta_S_uint64, tz_S_uint64, tu_S_uint64, bl_S_uint64, ap_S_uint64, mk_S_uint64, sl_S_uint64, cp_S_uint64⟩
theorem q_reeveref11_Thing : (tsize Try.prog 36 = some 13) ∧ (tagg Try.prog 36 = some true) ∧ (zeroFlat Try.prog 36 = some [.int .i64 0, .int .i64 0, .int .i64 0, .int .i64 0, .int .i64 0, .int .i64 0, .int .i64 0, .bool false, .int .u64 0, .int .u64 0, .int .u64 0, .int .u64 0, .int .u64 0]) ∧ (tplaces Try.prog 36 = some [(0, 1), (1, 1), (2, 1), (3, 1), (4, 1), (5, 1), (6, 1), (7, 1), (8, 1), (9, 4)]) ∧ (tfield Try.prog 36 0 = some (3, 0)) ∧ (tfield' Try.prog 36 0 = some (3, 0)) ∧ (tfield Try.prog 36 1 = some (3, 1)) ∧ (tfield' Try.prog 36 1 = some (3, 1)) ∧ (tfield Try.prog 36 2 = some (3, 2)) ∧ (tfield' Try.prog 36 2 = some (3, 2)) ∧ (tfield Try.prog 36 3 = some (3, 3)) ∧ (tfield' Try.prog 36 3 = some (3, 3)) ∧ (tfield Try.prog 36 4 = some (3, 4)) ∧ (tfield' Try.prog 36 4 = some (3, 4)) ∧ (tfield Try.prog 36 5 = some (3, 5)) ∧ (tfield' Try.prog 36 5 = some (3, 5)) ∧ (tfield Try.prog 36 6 = some (3, 6)) ∧ (tfield' Try.prog 36 6 = some (3, 6)) ∧ (tfield Try.prog 36 7 = some (4, 7)) ∧ (tfield' Try.prog 36 7 = some (4, 7)) ∧ (tfield Try.prog 36 8 = some (23, 8)) ∧ (tfield' Try.prog 36 8 = some (23, 8)) ∧ (tfield Try.prog 36 9 = some (24, 9)) ∧ (tfield' Try.prog 36 9 = some (24, 9)) ∧ (∀ (ty : TypeId) (ev : Operand → Value) (g : AMem) (n : Nat) (parts : Array (Nat × Operand)), aOp Try.prog ty ev g n (.build 36 parts) = (fillP [(0, 1), (1, 1), (2, 1), (3, 1), (4, 1), (5, 1), (6, 1), (7, 1), (8, 1), (9, 4)] [.int .i64 0, .int .i64 0, .int .i64 0, .int .i64 0, .int .i64 0, .int .i64 0, .int .i64 0, .bool false, .int .u64 0, .int .u64 0, .int .u64 0, .int .u64 0, .int .u64 0] (parts.toList.map fun p => (p.1, ev p.2))).map fun cs => (.agg cs.toArray, .none)) := ⟨ts_reeveref11_Thing, ta_reeveref11_Thing, tz_reeveref11_Thing, tp_reeveref11_Thing, tf_reeveref11_Thing_Type, tg_reeveref11_Thing_Type, tf_reeveref11_Thing_Bits, tg_reeveref11_Thing_Bits, tf_reeveref11_Thing_Base, tg_reeveref11_Thing_Base, tf_reeveref11_Thing_Size, tg_reeveref11_Thing_Size, tf_reeveref11_Thing_Used, tg_reeveref11_Thing_Used, tf_reeveref11_Thing_From, tg_reeveref11_Thing_From, tf_reeveref11_Thing_Badge, tg_reeveref11_Thing_Badge, tf_reeveref11_Thing_Full, tg_reeveref11_Thing_Full, tf_reeveref11_Thing_Word, tg_reeveref11_Thing_Word, tf_reeveref11_Thing_Data, tg_reeveref11_Thing_Data, bs_reeveref11_Thing⟩
theorem q_S_tag_Field : (tsize Try.prog 85 = some 1) ∧ (tagg Try.prog 85 = some false) ∧ (zeroFlat Try.prog 85 = some [.slice none 0 0]) ∧ (Try.prog.underlying 85 = some (.slice 100)) ∧ (∀ (ty : TypeId) (ev : Operand → Value) (g : AMem) (n : Nat) (len : Nat) (parts : Array (Nat × Operand)), len * 2 ≤ 16777216 → aOp Try.prog ty ev g n (.buildSlice 85 len parts) = (fillS 2 (zeroRow [.int .i64 0, .int .i64 0] len) (parts.toList.map fun p => (p.1, ev p.2))).map fun cs => (.slice (some ⟨n, 0, none⟩) len 2, .new (.row cs true))) ∧ (∀ (g : AMem) (n : Nat) (s x : Value), aAppend Try.prog g n 85 s x = appR g n 1 16 s (aRead g 2 x)) ∧ (∀ (n : Nat) (k k' : IntKind) (l c : Int), aMake Try.prog n 85 (.int k l) (.int k' c) = if 0 ≤ l ∧ l ≤ c ∧ c ≤ 70368744177664 ∧ 16 * c.toNat ≤ 70368744177664 then some (.slice (some ⟨n, 0, none⟩) l.toNat 2, .new (.row (zeroRow [.int .i64 0, .int .i64 0] l.toNat) true)) else none) ∧ (∀ (ty : TypeId) (ev : Operand → Value) (g : AMem) (n : Nat) (x : Operand) (lo hi : Option Operand), aOp Try.prog ty ev g n (.slice 85 x lo hi none) = (slR 2 (ev x) (lo.map ev) (hi.map ev)).map fun v => (v, .none)) ∧ (∀ (g : AMem) (d s : Value), aCopy Try.prog g 85 d s = cpR g 2 d (aRead g 2 s)) := ⟨ts_S_tag_Field, ta_S_tag_Field, tz_S_tag_Field, tu_S_tag_Field, bl_S_tag_Field, ap_S_tag_Field, mk_S_tag_Field, sl_S_tag_Field, cp_S_tag_Field⟩
theorem q_tag_Field : (tsize Try.prog 100 = some 2) ∧ (tagg Try.prog 100 = some true) ∧ (zeroFlat Try.prog 100 = some [.int .i64 0, .int .i64 0]) ∧ (tplaces Try.prog 100 = some [(0, 1), (1, 1)]) ∧ (tfield Try.prog 100 0 = some (3, 0)) ∧ (tfield' Try.prog 100 0 = some (3, 0)) ∧ (tfield Try.prog 100 1 = some (3, 1)) ∧ (tfield' Try.prog 100 1 = some (3, 1)) ∧ (∀ (ty : TypeId) (ev : Operand → Value) (g : AMem) (n : Nat) (parts : Array (Nat × Operand)), aOp Try.prog ty ev g n (.build 100 parts) = (fillP [(0, 1), (1, 1)] [.int .i64 0, .int .i64 0] (parts.toList.map fun p => (p.1, ev p.2))).map fun cs => (.agg cs.toArray, .none)) := ⟨ts_tag_Field, ta_tag_Field, tz_tag_Field, tp_tag_Field, tf_tag_Field_From, tg_tag_Field_From, tf_tag_Field_Len, tg_tag_Field_Len, bs_tag_Field⟩
/-- reeve/reevelaw11.ThingKnown -/
abbrev f_reevelaw11_ThingKnown : FuncId := 3
def rc_reevelaw11_ThingKnownl0 : RCode :=
  (.seq
    (.seq
      (.region [⟨some 44, .none, true, 3, .move (.tmp 2)⟩,
        ⟨some 45, .none, true, 27, .move (.tmp 1)⟩,
        ⟨some 46, .none, true, 3, .call { callee := .builtin .len, args := #[.tmp 45], argTypes := #[27] }⟩,
        ⟨some 47, .none, true, 4, .binOp .lss 3 (.tmp 44) (.tmp 46) 3⟩])
    (.keep [1, 2, 47]
    (.cond (.tmp 47)
      .skip
      (.exit 0))))
  (.seq
    (.block 1
      (.seq
        (.region [⟨some 50, .none, true, 27, .move (.tmp 1)⟩,
          ⟨some 51, .none, true, 3, .move (.tmp 2)⟩,
          ⟨some 52, .none, true, 0, .indexAddr 27 (.tmp 50) (.tmp 51)⟩,
          ⟨some 53, .none, true, 26, .load 26 (.tmp 52)⟩,
          ⟨some 54, .none, true, 4, .call { callee := .value (.func 14), args := #[.tmp 53], argTypes := #[26] }⟩,
          ⟨some 55, .none, true, 4, .move (.tmp 54)⟩,
          ⟨some 56, .some 55 false, true, 27, .move (.tmp 1)⟩,
          ⟨some 57, .some 55 false, true, 3, .move (.tmp 2)⟩,
          ⟨some 58, .some 55 false, true, 0, .indexAddr 27 (.tmp 56) (.tmp 57)⟩,
          ⟨some 59, .some 55 false, true, 26, .load 26 (.tmp 58)⟩,
          ⟨some 60, .some 55 false, true, 29, .call { callee := .value (.func 15), args := #[.tmp 59], argTypes := #[26] }⟩,
          ⟨some 61, .some 55 false, true, 3, .call { callee := .builtin .len, args := #[.tmp 60], argTypes := #[29] }⟩,
          ⟨some 62, .some 55 false, true, 4, .binOp .neq 3 (.tmp 61) (.const (.int .i64 0)) 3⟩,
          ⟨some 63, .none, true, 4, .pick (.tmp 55) (.const (.bool true)) (.tmp 62)⟩])
      (.keep [1, 2, 63]
      (.cond (.tmp 63)
        (.seq
          (.region [⟨some 0, .none, true, 4, .assign (.const (.bool false))⟩])
        .ret)
        .skip))))
  (.keep [1, 2]
  (.region [⟨some 48, .none, true, 3, .move (.tmp 2)⟩,
    ⟨some 49, .none, true, 3, .binOp .add 3 (.tmp 48) (.const (.int .i64 1)) 3⟩,
    ⟨some 2, .none, true, 3, .assign (.tmp 49)⟩]))))
def rc_reevelaw11_ThingKnown : RCode :=
  (.seq
    (.region [⟨some 0, .none, true, 4, .assign (.const (.bool false))⟩])
  (.keep []
  (.seq
    (.seq
      (.region [⟨some 25, .none, true, 4, .call { callee := .value (.func 13), args := #[], argTypes := #[] }⟩,
        ⟨some 26, .none, true, 4, .unOp .not 4 (.tmp 25)⟩])
    (.keep [26]
    (.cond (.tmp 26)
      (.seq
        (.region [⟨some 0, .none, true, 4, .assign (.const (.bool false))⟩])
      .ret)
      .skip)))
  (.seq
    (.region [⟨some 27, .none, true, 26, .build 26 #[(0, .const (.int .i64 6))]⟩,
      ⟨some 28, .none, true, 26, .build 26 #[(0, .const (.int .i64 (-1)))]⟩,
      ⟨some 29, .none, true, 26, .build 26 #[(3, .const (.int .i64 1))]⟩,
      ⟨some 30, .none, true, 26, .build 26 #[(0, .const (.int .i64 1))]⟩,
      ⟨some 31, .none, true, 26, .build 26 #[(0, .const (.int .i64 1)), (3, .const (.int .i64 4097))]⟩,
      ⟨some 32, .none, true, 26, .build 26 #[(0, .const (.int .i64 1)), (3, .const (.int .i64 5)), (4, .const (.int .i64 6))]⟩,
      ⟨some 33, .none, true, 26, .build 26 #[(0, .const (.int .i64 2)), (1, .const (.int .i64 5))]⟩,
      ⟨some 34, .none, true, 26, .build 26 #[(0, .const (.int .i64 2)), (1, .const (.int .i64 4)), (2, .const (.int .i64 81))]⟩,
      ⟨some 35, .none, true, 26, .build 26 #[(0, .const (.int .i64 2)), (1, .const (.int .i64 1)), (2, .const (.int .i64 (-1)))]⟩,
      ⟨some 36, .none, true, 26, .build 26 #[(0, .const (.int .i64 3)), (8, .const (.int .u64 1))]⟩,
      ⟨some 37, .none, true, 26, .build 26 #[(0, .const (.int .i64 3)), (7, .const (.bool true)), (5, .const (.int .i64 97))]⟩,
      ⟨some 38, .none, true, 26, .build 26 #[(0, .const (.int .i64 3)), (7, .const (.bool true)), (6, .const (.int .i64 65536))]⟩,
      ⟨some 39, .none, true, 26, .build 26 #[(0, .const (.int .i64 4)), (7, .const (.bool true))]⟩,
      ⟨some 40, .none, true, 26, .build 26 #[(0, .const (.int .i64 5)), (8, .const (.int .u64 1))]⟩,
      ⟨some 41, .none, true, 24, .build 24 #[(0, .const (.int .u64 1))]⟩,
      ⟨some 42, .none, true, 26, .build 26 #[(0, .const (.int .i64 4)), (9, .tmp 41)]⟩,
      ⟨some 43, .none, true, 27, .buildSlice 27 15 #[(0, .tmp 27), (1, .tmp 28), (2, .tmp 29), (3, .tmp 30), (4, .tmp 31), (5, .tmp 32), (6, .tmp 33), (7, .tmp 34), (8, .tmp 35), (9, .tmp 36), (10, .tmp 37), (11, .tmp 38), (12, .tmp 39), (13, .tmp 40), (14, .tmp 42)]⟩,
      ⟨some 1, .none, true, 27, .assign (.tmp 43)⟩])
  (.keep [1]
  (.seq
    (.seq
      (.region [⟨some 2, .none, true, 3, .assign (.const (.int .i64 0))⟩])
    (.keep [1, 2]
    (.block 0
      (.loop [1, 2] rc_reevelaw11_ThingKnownl0))))
  (.seq
    (.region [⟨some 65, .none, true, 31, .call { callee := .value (.func 16), args := #[.const (.int .i64 1), .const (.int .i64 4096)], argTypes := #[3, 3] }⟩,
      ⟨some 64, .none, true, 31, .move (.tmp 65)⟩,
      ⟨some 66, .none, true, 3, .extract (.tmp 64) 0⟩,
      ⟨some 67, .none, true, 4, .extract (.tmp 64) 1⟩,
      ⟨some 3, .none, true, 3, .assign (.tmp 66)⟩,
      ⟨some 4, .none, true, 4, .assign (.tmp 67)⟩])
  (.keep [3, 4]
  (.seq
    (.region [⟨some 69, .none, true, 31, .call { callee := .value (.func 16), args := #[.const (.int .i64 1), .const (.int .i64 0)], argTypes := #[3, 3] }⟩,
      ⟨some 68, .none, true, 31, .move (.tmp 69)⟩,
      ⟨some 70, .none, true, 3, .extract (.tmp 68) 0⟩,
      ⟨some 71, .none, true, 4, .extract (.tmp 68) 1⟩,
      ⟨some 5, .none, true, 3, .assign (.tmp 70)⟩,
      ⟨some 6, .none, true, 4, .assign (.tmp 71)⟩])
  (.keep [3, 4, 6]
  (.seq
    (.region [⟨some 73, .none, true, 31, .call { callee := .value (.func 16), args := #[.const (.int .i64 2), .const (.int .i64 5)], argTypes := #[3, 3] }⟩,
      ⟨some 72, .none, true, 31, .move (.tmp 73)⟩,
      ⟨some 74, .none, true, 3, .extract (.tmp 72) 0⟩,
      ⟨some 75, .none, true, 4, .extract (.tmp 72) 1⟩,
      ⟨some 7, .none, true, 3, .assign (.tmp 74)⟩,
      ⟨some 8, .none, true, 4, .assign (.tmp 75)⟩])
  (.keep [3, 4, 6, 8]
  (.seq
    (.region [⟨some 77, .none, true, 31, .call { callee := .value (.func 16), args := #[.const (.int .i64 5), .const (.int .i64 99)], argTypes := #[3, 3] }⟩,
      ⟨some 76, .none, true, 31, .move (.tmp 77)⟩,
      ⟨some 78, .none, true, 3, .extract (.tmp 76) 0⟩,
      ⟨some 79, .none, true, 4, .extract (.tmp 76) 1⟩,
      ⟨some 9, .none, true, 3, .assign (.tmp 78)⟩,
      ⟨some 10, .none, true, 4, .assign (.tmp 79)⟩])
  (.keep [3, 4, 6, 8, 9, 10]
  (.seq
    (.region [⟨some 81, .none, true, 31, .call { callee := .value (.func 16), args := #[.const (.int .i64 0), .const (.int .i64 1)], argTypes := #[3, 3] }⟩,
      ⟨some 80, .none, true, 31, .move (.tmp 81)⟩,
      ⟨some 82, .none, true, 3, .extract (.tmp 80) 0⟩,
      ⟨some 83, .none, true, 4, .extract (.tmp 80) 1⟩,
      ⟨some 11, .none, true, 3, .assign (.tmp 82)⟩,
      ⟨some 12, .none, true, 4, .assign (.tmp 83)⟩])
  (.keep [3, 4, 6, 8, 9, 10, 12]
  (.seq
    (.region [⟨some 85, .none, true, 33, .call { callee := .value (.func 17), args := #[.const (.int .i64 2), .const (.int .i64 4), .const (.int .i64 81)], argTypes := #[3, 3, 3] }⟩,
      ⟨some 84, .none, true, 33, .move (.tmp 85)⟩,
      ⟨some 86, .none, true, 26, .extract (.tmp 84) 0⟩,
      ⟨some 87, .none, true, 4, .extract (.tmp 84) 1⟩,
      ⟨some 13, .none, true, 0, .alloc 26⟩,
      ⟨none, .none, true, 0, .store 26 (.tmp 13) (.tmp 86)⟩,
      ⟨some 14, .none, true, 4, .assign (.tmp 87)⟩])
  (.keep [3, 4, 6, 8, 9, 10, 12, 14]
  (.seq
    (.region [⟨some 89, .none, true, 33, .call { callee := .value (.func 17), args := #[.const (.int .i64 3), .const (.int .i64 7), .const (.int .i64 7)], argTypes := #[3, 3, 3] }⟩,
      ⟨some 88, .none, true, 33, .move (.tmp 89)⟩,
      ⟨some 90, .none, true, 26, .extract (.tmp 88) 0⟩,
      ⟨some 91, .none, true, 4, .extract (.tmp 88) 1⟩,
      ⟨some 15, .none, true, 0, .alloc 26⟩,
      ⟨none, .none, true, 0, .store 26 (.tmp 15) (.tmp 90)⟩,
      ⟨some 16, .none, true, 4, .assign (.tmp 91)⟩])
  (.keep [3, 4, 6, 8, 9, 10, 12, 14, 15, 16]
  (.seq
    (.region [⟨some 92, .none, true, 26, .build 26 #[(0, .const (.int .i64 3)), (7, .const (.bool true)), (8, .const (.int .u64 9)), (6, .const (.int .i64 3)), (5, .const (.int .i64 96))]⟩,
      ⟨some 17, .none, true, 0, .alloc 26⟩,
      ⟨none, .none, true, 0, .store 26 (.tmp 17) (.tmp 92)⟩])
  (.keep [3, 4, 6, 8, 9, 10, 12, 14, 15, 16, 17]
  (.seq
    (.region [⟨some 93, .none, true, 26, .load 26 (.tmp 17)⟩,
      ⟨some 94, .none, true, 29, .call { callee := .value (.func 15), args := #[.tmp 93], argTypes := #[26] }⟩,
      ⟨some 18, .none, true, 29, .assign (.tmp 94)⟩])
  (.keep [3, 4, 6, 8, 9, 10, 12, 14, 15, 16, 18]
  (.seq
    (.region [⟨some 96, .none, true, 29, .buildSlice 29 3 #[(0, .const (.int .u64 1)), (1, .const (.int .u64 2)), (2, .const (.int .u64 3))]⟩,
      ⟨some 97, .none, true, 33, .call { callee := .value (.func 18), args := #[.tmp 96], argTypes := #[29] }⟩,
      ⟨some 95, .none, true, 33, .move (.tmp 97)⟩,
      ⟨some 98, .none, true, 26, .extract (.tmp 95) 0⟩,
      ⟨some 99, .none, true, 4, .extract (.tmp 95) 1⟩,
      ⟨some 19, .none, true, 0, .alloc 26⟩,
      ⟨none, .none, true, 0, .store 26 (.tmp 19) (.tmp 98)⟩,
      ⟨some 20, .none, true, 4, .assign (.tmp 99)⟩])
  (.keep [3, 4, 6, 8, 9, 10, 12, 14, 15, 16, 18, 20]
  (.seq
    (.region [⟨some 101, .none, true, 29, .buildSlice 29 8 #[(0, .const (.int .u64 0)), (1, .const (.int .u64 0)), (2, .const (.int .u64 0)), (3, .const (.int .u64 0)), (4, .const (.int .u64 0)), (5, .const (.int .u64 0)), (6, .const (.int .u64 0)), (7, .const (.int .u64 0))]⟩,
      ⟨some 102, .none, true, 33, .call { callee := .value (.func 18), args := #[.tmp 101], argTypes := #[29] }⟩,
      ⟨some 100, .none, true, 33, .move (.tmp 102)⟩,
      ⟨some 103, .none, true, 26, .extract (.tmp 100) 0⟩,
      ⟨some 104, .none, true, 4, .extract (.tmp 100) 1⟩,
      ⟨some 21, .none, true, 0, .alloc 26⟩,
      ⟨none, .none, true, 0, .store 26 (.tmp 21) (.tmp 103)⟩,
      ⟨some 22, .none, true, 4, .assign (.tmp 104)⟩])
  (.keep [3, 4, 6, 8, 9, 10, 12, 14, 15, 16, 18, 20, 21, 22]
  (.seq
    (.region [⟨some 106, .none, true, 29, .buildSlice 29 8 #[(0, .const (.int .u64 0)), (1, .const (.int .u64 0)), (2, .const (.int .u64 0)), (3, .const (.int .u64 0)), (4, .const (.int .u64 0)), (5, .const (.int .u64 0)), (6, .const (.int .u64 0)), (7, .const (.int .u64 1))]⟩,
      ⟨some 107, .none, true, 33, .call { callee := .value (.func 18), args := #[.tmp 106], argTypes := #[29] }⟩,
      ⟨some 105, .none, true, 33, .move (.tmp 107)⟩,
      ⟨some 108, .none, true, 26, .extract (.tmp 105) 0⟩,
      ⟨some 109, .none, true, 4, .extract (.tmp 105) 1⟩,
      ⟨some 23, .none, true, 0, .alloc 26⟩,
      ⟨none, .none, true, 0, .store 26 (.tmp 23) (.tmp 108)⟩,
      ⟨some 24, .none, true, 4, .assign (.tmp 109)⟩])
  (.keep [3, 4, 6, 8, 9, 10, 12, 14, 15, 16, 18, 20, 21, 22, 24]
  (.seq
    (.region [⟨some 110, .none, true, 4, .move (.tmp 4)⟩,
      ⟨some 111, .none, true, 4, .move (.tmp 110)⟩,
      ⟨some 112, .some 111 true, true, 3, .move (.tmp 3)⟩,
      ⟨some 113, .some 111 true, true, 4, .binOp .eql 3 (.tmp 112) (.const (.int .i64 4096)) 3⟩,
      ⟨some 114, .none, true, 4, .pick (.tmp 111) (.tmp 113) (.const (.bool false))⟩,
      ⟨some 115, .none, true, 4, .move (.tmp 114)⟩,
      ⟨some 116, .some 115 true, true, 4, .move (.tmp 6)⟩,
      ⟨some 117, .some 115 true, true, 4, .unOp .not 4 (.tmp 116)⟩,
      ⟨some 118, .none, true, 4, .pick (.tmp 115) (.tmp 117) (.const (.bool false))⟩,
      ⟨some 119, .none, true, 4, .move (.tmp 118)⟩,
      ⟨some 120, .some 119 true, true, 4, .move (.tmp 8)⟩,
      ⟨some 121, .some 119 true, true, 4, .unOp .not 4 (.tmp 120)⟩,
      ⟨some 122, .none, true, 4, .pick (.tmp 119) (.tmp 121) (.const (.bool false))⟩,
      ⟨some 123, .none, true, 4, .move (.tmp 122)⟩,
      ⟨some 124, .some 123 true, true, 4, .move (.tmp 10)⟩,
      ⟨some 125, .none, true, 4, .pick (.tmp 123) (.tmp 124) (.const (.bool false))⟩,
      ⟨some 126, .none, true, 4, .move (.tmp 125)⟩,
      ⟨some 127, .some 126 true, true, 3, .move (.tmp 9)⟩,
      ⟨some 128, .some 126 true, true, 4, .binOp .eql 3 (.tmp 127) (.const (.int .i64 2)) 3⟩,
      ⟨some 129, .none, true, 4, .pick (.tmp 126) (.tmp 128) (.const (.bool false))⟩,
      ⟨some 130, .none, true, 4, .move (.tmp 129)⟩,
      ⟨some 131, .some 130 true, true, 4, .move (.tmp 12)⟩,
      ⟨some 132, .some 130 true, true, 4, .unOp .not 4 (.tmp 131)⟩,
      ⟨some 133, .none, true, 4, .pick (.tmp 130) (.tmp 132) (.const (.bool false))⟩,
      ⟨some 134, .none, true, 4, .move (.tmp 133)⟩,
      ⟨some 135, .some 134 true, true, 4, .move (.tmp 14)⟩,
      ⟨some 136, .some 134 true, true, 4, .unOp .not 4 (.tmp 135)⟩,
      ⟨some 137, .none, true, 4, .pick (.tmp 134) (.tmp 136) (.const (.bool false))⟩,
      ⟨some 138, .none, true, 4, .move (.tmp 137)⟩,
      ⟨some 139, .some 138 true, true, 4, .move (.tmp 16)⟩,
      ⟨some 140, .none, true, 4, .pick (.tmp 138) (.tmp 139) (.const (.bool false))⟩,
      ⟨some 141, .none, true, 4, .move (.tmp 140)⟩,
      ⟨some 142, .some 141 true, true, 26, .load 26 (.tmp 15)⟩,
      ⟨some 143, .some 141 true, true, 26, .build 26 #[(0, .const (.int .i64 3))]⟩,
      ⟨some 144, .some 141 true, true, 4, .binOp .eql 26 (.tmp 142) (.tmp 143) 26⟩,
      ⟨some 145, .none, true, 4, .pick (.tmp 141) (.tmp 144) (.const (.bool false))⟩,
      ⟨some 146, .none, true, 4, .move (.tmp 145)⟩,
      ⟨some 147, .some 146 true, true, 29, .move (.tmp 18)⟩,
      ⟨some 148, .some 146 true, true, 3, .call { callee := .builtin .len, args := #[.tmp 147], argTypes := #[29] }⟩,
      ⟨some 149, .some 146 true, true, 4, .binOp .eql 3 (.tmp 148) (.const (.int .i64 8)) 3⟩,
      ⟨some 150, .none, true, 4, .pick (.tmp 146) (.tmp 149) (.const (.bool false))⟩,
      ⟨some 151, .none, true, 4, .move (.tmp 150)⟩,
      ⟨some 152, .some 151 true, true, 29, .move (.tmp 18)⟩,
      ⟨some 153, .some 151 true, true, 0, .indexAddr 29 (.tmp 152) (.const (.int .i64 0))⟩,
      ⟨some 154, .some 151 true, true, 23, .load 23 (.tmp 153)⟩,
      ⟨some 155, .some 151 true, true, 4, .binOp .eql 23 (.tmp 154) (.const (.int .u64 412333637635)) 23⟩,
      ⟨some 156, .none, true, 4, .pick (.tmp 151) (.tmp 155) (.const (.bool false))⟩,
      ⟨some 157, .none, true, 4, .move (.tmp 156)⟩,
      ⟨some 158, .some 157 true, true, 29, .move (.tmp 18)⟩,
      ⟨some 159, .some 157 true, true, 0, .indexAddr 29 (.tmp 158) (.const (.int .i64 1))⟩,
      ⟨some 160, .some 157 true, true, 23, .load 23 (.tmp 159)⟩,
      ⟨some 161, .some 157 true, true, 4, .binOp .eql 23 (.tmp 160) (.const (.int .u64 12884901888)) 23⟩,
      ⟨some 162, .none, true, 4, .pick (.tmp 157) (.tmp 161) (.const (.bool false))⟩,
      ⟨some 163, .none, true, 4, .move (.tmp 162)⟩,
      ⟨some 164, .some 163 true, true, 29, .move (.tmp 18)⟩,
      ⟨some 165, .some 163 true, true, 0, .indexAddr 29 (.tmp 164) (.const (.int .i64 2))⟩,
      ⟨some 166, .some 163 true, true, 23, .load 23 (.tmp 165)⟩,
      ⟨some 167, .some 163 true, true, 4, .binOp .eql 23 (.tmp 166) (.const (.int .u64 9)) 23⟩,
      ⟨some 168, .none, true, 4, .pick (.tmp 163) (.tmp 167) (.const (.bool false))⟩,
      ⟨some 169, .none, true, 4, .move (.tmp 168)⟩,
      ⟨some 170, .some 169 true, true, 4, .move (.tmp 20)⟩,
      ⟨some 171, .some 169 true, true, 4, .unOp .not 4 (.tmp 170)⟩,
      ⟨some 172, .none, true, 4, .pick (.tmp 169) (.tmp 171) (.const (.bool false))⟩,
      ⟨some 173, .none, true, 4, .move (.tmp 172)⟩,
      ⟨some 174, .some 173 true, true, 4, .move (.tmp 22)⟩,
      ⟨some 175, .none, true, 4, .pick (.tmp 173) (.tmp 174) (.const (.bool false))⟩,
      ⟨some 176, .none, true, 4, .move (.tmp 175)⟩,
      ⟨some 177, .some 176 true, true, 26, .load 26 (.tmp 21)⟩,
      ⟨some 178, .some 176 true, true, 26, .build 26 #[]⟩,
      ⟨some 179, .some 176 true, true, 4, .binOp .eql 26 (.tmp 177) (.tmp 178) 26⟩,
      ⟨some 180, .none, true, 4, .pick (.tmp 176) (.tmp 179) (.const (.bool false))⟩,
      ⟨some 181, .none, true, 4, .move (.tmp 180)⟩,
      ⟨some 182, .some 181 true, true, 4, .move (.tmp 24)⟩,
      ⟨some 183, .some 181 true, true, 4, .unOp .not 4 (.tmp 182)⟩,
      ⟨some 184, .none, true, 4, .pick (.tmp 181) (.tmp 183) (.const (.bool false))⟩,
      ⟨some 0, .none, true, 4, .assign (.tmp 184)⟩])
  .ret)))))))))))))))))))))))))))))))
theorem t_reevelaw11_ThingKnown : FnT Try.prog f_reevelaw11_ThingKnown rc_reevelaw11_ThingKnown [.tmp 0] 0 := ⟨⟨[], Try.f3, _, Try.func3, rfl, by kernel_rfl, by kernel_rfl, by kernel_rfl, rfl, by decide⟩, by kernel_rfl⟩
/-- reeve/reevelaw11.ThingSays -/
abbrev f_reevelaw11_ThingSays : FuncId := 4
def rc_reevelaw11_ThingSays : RCode :=
  (.seq
    (.region [⟨some 5, .none, true, 0, .box 26 (.tmp 0)⟩,
      ⟨some 10, .none, true, 4, .assign (.const (.bool false))⟩])
  (.keep [1, 2, 3, 4, 5]
  (.seq
    (.seq
      (.region [⟨some 23, .none, true, 4, .call { callee := .value (.func 13), args := #[], argTypes := #[] }⟩,
        ⟨some 24, .none, true, 4, .unOp .not 4 (.tmp 23)⟩])
    (.keep [1, 2, 3, 4, 5, 24]
    (.cond (.tmp 24)
      (.seq
        (.region [⟨some 10, .none, true, 4, .assign (.const (.bool false))⟩])
      .ret)
      .skip)))
  (.seq
    (.seq
      (.region [⟨some 25, .none, true, 29, .move (.tmp 1)⟩,
        ⟨some 26, .none, true, 3, .call { callee := .builtin .len, args := #[.tmp 25], argTypes := #[29] }⟩,
        ⟨some 27, .none, true, 4, .binOp .gtr 3 (.tmp 26) (.const (.int .i64 20)) 3⟩])
    (.keep [1, 2, 3, 4, 5, 27]
    (.cond (.tmp 27)
      (.seq
        (.region [⟨some 10, .none, true, 4, .assign (.const (.bool true))⟩])
      .ret)
      .skip)))
  (.seq
    (.region [⟨some 29, .none, true, 29, .move (.tmp 1)⟩,
      ⟨some 30, .none, true, 33, .call { callee := .value (.func 18), args := #[.tmp 29], argTypes := #[29] }⟩,
      ⟨some 28, .none, true, 33, .move (.tmp 30)⟩,
      ⟨some 31, .none, true, 26, .extract (.tmp 28) 0⟩,
      ⟨some 32, .none, true, 4, .extract (.tmp 28) 1⟩,
      ⟨some 11, .none, true, 0, .alloc 26⟩,
      ⟨none, .none, true, 0, .store 26 (.tmp 11) (.tmp 31)⟩,
      ⟨some 12, .none, true, 4, .assign (.tmp 32)⟩])
  (.keep [1, 2, 3, 4, 5, 11, 12]
  (.seq
    (.region [⟨some 34, .none, true, 29, .move (.tmp 1)⟩,
      ⟨some 35, .none, true, 37, .call { callee := .value (.func 19), args := #[.tmp 34], argTypes := #[29] }⟩,
      ⟨some 33, .none, true, 37, .move (.tmp 35)⟩,
      ⟨some 36, .none, true, 36, .extract (.tmp 33) 0⟩,
      ⟨some 37, .none, true, 4, .extract (.tmp 33) 1⟩,
      ⟨some 13, .none, true, 0, .alloc 36⟩,
      ⟨none, .none, true, 0, .store 36 (.tmp 13) (.tmp 36)⟩,
      ⟨some 14, .none, true, 4, .assign (.tmp 37)⟩])
  (.keep [2, 3, 4, 5, 11, 12, 13, 14]
  (.seq
    (.region [⟨some 39, .none, true, 3, .move (.tmp 2)⟩,
      ⟨some 40, .none, true, 3, .move (.tmp 3)⟩,
      ⟨some 41, .none, true, 31, .call { callee := .value (.func 16), args := #[.tmp 39, .tmp 40], argTypes := #[3, 3] }⟩,
      ⟨some 38, .none, true, 31, .move (.tmp 41)⟩,
      ⟨some 42, .none, true, 3, .extract (.tmp 38) 0⟩,
      ⟨some 43, .none, true, 4, .extract (.tmp 38) 1⟩,
      ⟨some 15, .none, true, 3, .assign (.tmp 42)⟩,
      ⟨some 16, .none, true, 4, .assign (.tmp 43)⟩])
  (.keep [2, 3, 4, 5, 11, 12, 13, 14, 15, 16]
  (.seq
    (.region [⟨some 45, .none, true, 3, .move (.tmp 2)⟩,
      ⟨some 46, .none, true, 3, .move (.tmp 3)⟩,
      ⟨some 47, .none, true, 31, .call { callee := .value (.func 20), args := #[.tmp 45, .tmp 46], argTypes := #[3, 3] }⟩,
      ⟨some 44, .none, true, 31, .move (.tmp 47)⟩,
      ⟨some 48, .none, true, 3, .extract (.tmp 44) 0⟩,
      ⟨some 49, .none, true, 4, .extract (.tmp 44) 1⟩,
      ⟨some 17, .none, true, 3, .assign (.tmp 48)⟩,
      ⟨some 18, .none, true, 4, .assign (.tmp 49)⟩])
  (.keep [2, 3, 4, 5, 11, 12, 13, 14, 15, 16, 17, 18]
  (.seq
    (.region [⟨some 51, .none, true, 3, .move (.tmp 2)⟩,
      ⟨some 52, .none, true, 3, .move (.tmp 3)⟩,
      ⟨some 53, .none, true, 3, .move (.tmp 4)⟩,
      ⟨some 54, .none, true, 33, .call { callee := .value (.func 17), args := #[.tmp 51, .tmp 52, .tmp 53], argTypes := #[3, 3, 3] }⟩,
      ⟨some 50, .none, true, 33, .move (.tmp 54)⟩,
      ⟨some 55, .none, true, 26, .extract (.tmp 50) 0⟩,
      ⟨some 56, .none, true, 4, .extract (.tmp 50) 1⟩,
      ⟨some 19, .none, true, 0, .alloc 26⟩,
      ⟨none, .none, true, 0, .store 26 (.tmp 19) (.tmp 55)⟩,
      ⟨some 20, .none, true, 4, .assign (.tmp 56)⟩])
  (.keep [2, 3, 4, 5, 11, 12, 13, 14, 15, 16, 17, 18, 19, 20]
  (.seq
    (.region [⟨some 58, .none, true, 3, .move (.tmp 2)⟩,
      ⟨some 59, .none, true, 3, .move (.tmp 3)⟩,
      ⟨some 60, .none, true, 3, .move (.tmp 4)⟩,
      ⟨some 61, .none, true, 37, .call { callee := .value (.func 21), args := #[.tmp 58, .tmp 59, .tmp 60], argTypes := #[3, 3, 3] }⟩,
      ⟨some 57, .none, true, 37, .move (.tmp 61)⟩,
      ⟨some 62, .none, true, 36, .extract (.tmp 57) 0⟩,
      ⟨some 63, .none, true, 4, .extract (.tmp 57) 1⟩,
      ⟨some 21, .none, true, 0, .alloc 36⟩,
      ⟨none, .none, true, 0, .store 36 (.tmp 21) (.tmp 62)⟩,
      ⟨some 22, .none, true, 4, .assign (.tmp 63)⟩])
  (.keep [5, 11, 12, 13, 14, 15, 16, 17, 18, 19, 20, 21, 22]
  (.seq
    (.regionD [⟨some 64, .none, 26, .load 26 (.tmp 5), 0, []⟩,
      ⟨some 65, .none, 4, .call { callee := .value (.func 14), args := #[.tmp 64], argTypes := #[26] }, 1, []⟩,
      ⟨some 66, .none, 26, .load 26 (.tmp 5), 2, [1]⟩,
      ⟨some 67, .none, 36, .call { callee := .value (.func 23), args := #[.tmp 66], argTypes := #[26] }, 3, []⟩,
      ⟨some 68, .none, 4, .call { callee := .value (.func 22), args := #[.tmp 67], argTypes := #[36] }, 4, []⟩,
      ⟨some 69, .none, 4, .binOp .eql 4 (.tmp 65) (.tmp 68) 4, 5, []⟩,
      ⟨some 70, .none, 4, .move (.tmp 69), 6, []⟩,
      ⟨some 71, .some 70 true, 26, .load 26 (.tmp 5), 7, []⟩,
      ⟨some 72, .some 70 true, 29, .call { callee := .value (.func 15), args := #[.tmp 71], argTypes := #[26] }, 8, []⟩,
      ⟨some 73, .some 70 true, 26, .load 26 (.tmp 5), 9, [8]⟩,
      ⟨some 74, .some 70 true, 36, .call { callee := .value (.func 23), args := #[.tmp 73], argTypes := #[26] }, 10, []⟩,
      ⟨some 75, .some 70 true, 29, .call { callee := .value (.func 25), args := #[.tmp 74], argTypes := #[36] }, 11, []⟩,
      ⟨some 76, .some 70 true, 4, .call { callee := .value (.func 24), args := #[.tmp 72, .tmp 75], argTypes := #[29, 29] }, 12, []⟩,
      ⟨some 77, .none, 4, .pick (.tmp 70) (.tmp 76) (.const (.bool false)), 13, []⟩,
      ⟨some 78, .none, 4, .move (.tmp 77), 14, []⟩,
      ⟨some 79, .some 78 true, 4, .move (.tmp 12), 15, []⟩,
      ⟨some 80, .some 78 true, 4, .move (.tmp 14), 16, []⟩,
      ⟨some 81, .some 78 true, 4, .binOp .eql 4 (.tmp 79) (.tmp 80) 4, 17, []⟩,
      ⟨some 82, .none, 4, .pick (.tmp 78) (.tmp 81) (.const (.bool false)), 18, []⟩,
      ⟨some 83, .none, 4, .move (.tmp 82), 19, []⟩,
      ⟨some 84, .some 83 true, 26, .load 26 (.tmp 11), 20, []⟩,
      ⟨some 85, .some 83 true, 36, .call { callee := .value (.func 23), args := #[.tmp 84], argTypes := #[26] }, 21, []⟩,
      ⟨some 86, .some 83 true, 36, .load 36 (.tmp 13), 22, [21]⟩,
      ⟨some 87, .some 83 true, 4, .binOp .eql 36 (.tmp 85) (.tmp 86) 36, 23, []⟩,
      ⟨some 88, .none, 4, .pick (.tmp 83) (.tmp 87) (.const (.bool false)), 24, []⟩,
      ⟨some 89, .none, 4, .move (.tmp 88), 25, []⟩,
      ⟨some 90, .some 89 true, 3, .move (.tmp 15), 26, []⟩,
      ⟨some 91, .some 89 true, 3, .move (.tmp 17), 27, []⟩,
      ⟨some 92, .some 89 true, 4, .binOp .eql 3 (.tmp 90) (.tmp 91) 3, 28, []⟩,
      ⟨some 93, .none, 4, .pick (.tmp 89) (.tmp 92) (.const (.bool false)), 29, []⟩,
      ⟨some 94, .none, 4, .move (.tmp 93), 30, []⟩,
      ⟨some 95, .some 94 true, 4, .move (.tmp 16), 31, []⟩,
      ⟨some 96, .some 94 true, 4, .move (.tmp 18), 32, []⟩,
      ⟨some 97, .some 94 true, 4, .binOp .eql 4 (.tmp 95) (.tmp 96) 4, 33, []⟩,
      ⟨some 98, .none, 4, .pick (.tmp 94) (.tmp 97) (.const (.bool false)), 34, []⟩,
      ⟨some 99, .none, 4, .move (.tmp 98), 35, []⟩,
      ⟨some 100, .some 99 true, 4, .move (.tmp 20), 36, []⟩,
      ⟨some 101, .some 99 true, 4, .move (.tmp 22), 37, []⟩,
      ⟨some 102, .some 99 true, 4, .binOp .eql 4 (.tmp 100) (.tmp 101) 4, 38, []⟩,
      ⟨some 103, .none, 4, .pick (.tmp 99) (.tmp 102) (.const (.bool false)), 39, []⟩,
      ⟨some 104, .none, 4, .move (.tmp 103), 40, []⟩,
      ⟨some 105, .some 104 true, 26, .load 26 (.tmp 19), 41, []⟩,
      ⟨some 106, .some 104 true, 36, .call { callee := .value (.func 23), args := #[.tmp 105], argTypes := #[26] }, 42, []⟩,
      ⟨some 107, .some 104 true, 36, .load 36 (.tmp 21), 43, [42]⟩,
      ⟨some 108, .some 104 true, 4, .binOp .eql 36 (.tmp 106) (.tmp 107) 36, 44, []⟩,
      ⟨some 109, .none, 4, .pick (.tmp 104) (.tmp 108) (.const (.bool false)), 45, []⟩,
      ⟨some 10, .none, 4, .assign (.tmp 109), 46, []⟩])
  .ret)))))))))))))))))
theorem t_reevelaw11_ThingSays : FnT Try.prog f_reevelaw11_ThingSays rc_reevelaw11_ThingSays [.tmp 10] 5 := ⟨⟨[11], Try.f4, _, Try.func4, rfl, by kernel_rfl, by kernel_rfl, by kernel_rfl, rfl, by decide⟩, by kernel_rfl⟩
/-- reeve/reevelaw11.ThingBack -/
abbrev f_reevelaw11_ThingBack : FuncId := 5
def rc_reevelaw11_ThingBack : RCode :=
  (.seq
    (.region [⟨some 2, .none, true, 0, .box 26 (.tmp 0)⟩,
      ⟨some 4, .none, true, 4, .assign (.const (.bool false))⟩])
  (.keep [1, 2]
  (.seq
    (.seq
      (.region [⟨some 10, .none, true, 4, .call { callee := .value (.func 13), args := #[], argTypes := #[] }⟩,
        ⟨some 11, .none, true, 4, .unOp .not 4 (.tmp 10)⟩])
    (.keep [1, 2, 11]
    (.cond (.tmp 11)
      (.seq
        (.region [⟨some 4, .none, true, 4, .assign (.const (.bool false))⟩])
      .ret)
      .skip)))
  (.seq
    (.seq
      (.region [⟨some 12, .none, true, 29, .move (.tmp 1)⟩,
        ⟨some 13, .none, true, 3, .call { callee := .builtin .len, args := #[.tmp 12], argTypes := #[29] }⟩,
        ⟨some 14, .none, true, 4, .binOp .gtr 3 (.tmp 13) (.const (.int .i64 20)) 3⟩])
    (.keep [1, 2, 14]
    (.cond (.tmp 14)
      (.seq
        (.region [⟨some 4, .none, true, 4, .assign (.const (.bool true))⟩])
      .ret)
      .skip)))
  (.seq
    (.region [⟨some 15, .none, true, 26, .load 26 (.tmp 2)⟩,
      ⟨some 16, .none, true, 29, .call { callee := .value (.func 15), args := #[.tmp 15], argTypes := #[26] }⟩,
      ⟨some 5, .none, true, 29, .assign (.tmp 16)⟩])
  (.keep [1, 2, 5]
  (.seq
    (.seq
      (.region [⟨some 17, .none, true, 26, .load 26 (.tmp 2)⟩,
        ⟨some 18, .none, true, 4, .call { callee := .value (.func 14), args := #[.tmp 17], argTypes := #[26] }⟩])
    (.keep [1, 2, 5, 18]
    (.cond (.tmp 18)
      (.seq
        (.region [⟨some 20, .none, true, 29, .move (.tmp 5)⟩,
          ⟨some 21, .none, true, 33, .call { callee := .value (.func 18), args := #[.tmp 20], argTypes := #[29] }⟩,
          ⟨some 19, .none, true, 33, .move (.tmp 21)⟩,
          ⟨some 22, .none, true, 26, .extract (.tmp 19) 0⟩,
          ⟨some 23, .none, true, 4, .extract (.tmp 19) 1⟩,
          ⟨some 6, .none, true, 0, .alloc 26⟩,
          ⟨none, .none, true, 0, .store 26 (.tmp 6) (.tmp 22)⟩,
          ⟨some 7, .none, true, 4, .assign (.tmp 23)⟩])
      (.keep [1, 2, 5, 6, 7]
      (.seq
        (.region [⟨some 24, .none, true, 29, .move (.tmp 5)⟩,
          ⟨some 25, .none, true, 3, .call { callee := .builtin .len, args := #[.tmp 24], argTypes := #[29] }⟩,
          ⟨some 26, .none, true, 4, .binOp .neq 3 (.tmp 25) (.const (.int .i64 8)) 3⟩,
          ⟨some 27, .none, true, 4, .move (.tmp 26)⟩,
          ⟨some 28, .some 27 false, true, 4, .move (.tmp 7)⟩,
          ⟨some 29, .some 27 false, true, 4, .unOp .not 4 (.tmp 28)⟩,
          ⟨some 30, .none, true, 4, .pick (.tmp 27) (.const (.bool true)) (.tmp 29)⟩,
          ⟨some 31, .none, true, 4, .move (.tmp 30)⟩,
          ⟨some 32, .some 31 false, true, 26, .load 26 (.tmp 6)⟩,
          ⟨some 33, .some 31 false, true, 26, .load 26 (.tmp 2)⟩,
          ⟨some 34, .some 31 false, true, 4, .binOp .neq 26 (.tmp 32) (.tmp 33) 26⟩,
          ⟨some 35, .none, true, 4, .pick (.tmp 31) (.const (.bool true)) (.tmp 34)⟩])
      (.keep [1, 35]
      (.cond (.tmp 35)
        (.seq
          (.region [⟨some 4, .none, true, 4, .assign (.const (.bool false))⟩])
        .ret)
        .skip)))))
      .skip)))
  (.seq
    (.region [⟨some 37, .none, true, 29, .move (.tmp 1)⟩,
      ⟨some 38, .none, true, 33, .call { callee := .value (.func 18), args := #[.tmp 37], argTypes := #[29] }⟩,
      ⟨some 36, .none, true, 33, .move (.tmp 38)⟩,
      ⟨some 39, .none, true, 26, .extract (.tmp 36) 0⟩,
      ⟨some 40, .none, true, 4, .extract (.tmp 36) 1⟩,
      ⟨some 8, .none, true, 0, .alloc 26⟩,
      ⟨none, .none, true, 0, .store 26 (.tmp 8) (.tmp 39)⟩,
      ⟨some 9, .none, true, 4, .assign (.tmp 40)⟩])
  (.keep [1, 8, 9]
  (.seq
    (.region [⟨some 41, .none, true, 4, .move (.tmp 9)⟩,
      ⟨some 42, .none, true, 4, .unOp .not 4 (.tmp 41)⟩,
      ⟨some 43, .none, true, 4, .move (.tmp 42)⟩,
      ⟨some 44, .some 43 true, true, 26, .load 26 (.tmp 8)⟩,
      ⟨some 45, .some 43 true, true, 26, .build 26 #[]⟩,
      ⟨some 46, .some 43 true, true, 4, .binOp .eql 26 (.tmp 44) (.tmp 45) 26⟩,
      ⟨some 47, .none, true, 4, .pick (.tmp 43) (.tmp 46) (.const (.bool false))⟩,
      ⟨some 48, .none, true, 4, .move (.tmp 47)⟩,
      ⟨some 49, .some 48 false, true, 4, .move (.tmp 9)⟩,
      ⟨some 50, .some 48 false, true, 4, .move (.tmp 49)⟩,
      ⟨some 51, .some 50 true, true, 26, .load 26 (.tmp 8)⟩,
      ⟨some 52, .some 50 true, true, 4, .call { callee := .value (.func 14), args := #[.tmp 51], argTypes := #[26] }⟩,
      ⟨some 53, .some 48 false, true, 4, .pick (.tmp 50) (.tmp 52) (.const (.bool false))⟩,
      ⟨some 54, .some 48 false, true, 4, .move (.tmp 53)⟩,
      ⟨some 55, .some 54 true, true, 26, .load 26 (.tmp 8)⟩,
      ⟨some 56, .some 54 true, true, 29, .call { callee := .value (.func 15), args := #[.tmp 55], argTypes := #[26] }⟩,
      ⟨some 57, .some 54 true, true, 29, .move (.tmp 1)⟩,
      ⟨some 58, .some 54 true, true, 4, .call { callee := .value (.func 24), args := #[.tmp 56, .tmp 57], argTypes := #[29, 29] }⟩,
      ⟨some 59, .some 48 false, true, 4, .pick (.tmp 54) (.tmp 58) (.const (.bool false))⟩,
      ⟨some 60, .none, true, 4, .pick (.tmp 48) (.const (.bool true)) (.tmp 59)⟩,
      ⟨some 4, .none, true, 4, .assign (.tmp 60)⟩])
  .ret))))))))))
theorem t_reevelaw11_ThingBack : FnT Try.prog f_reevelaw11_ThingBack rc_reevelaw11_ThingBack [.tmp 4] 2 := ⟨⟨[], Try.f5, _, Try.func5, rfl, by kernel_rfl, by kernel_rfl, by kernel_rfl, rfl, by decide⟩, by kernel_rfl⟩
/-- reeve/reevelaw11.ThingApart -/
abbrev f_reevelaw11_ThingApart : FuncId := 6
def rc_reevelaw11_ThingApart : RCode :=
  (.seq
    (.region [⟨some 2, .none, true, 0, .box 26 (.tmp 0)⟩,
      ⟨some 3, .none, true, 0, .box 26 (.tmp 1)⟩,
      ⟨some 4, .none, true, 4, .assign (.const (.bool false))⟩])
  (.keep [2, 3]
  (.seq
    (.seq
      (.region [⟨some 5, .none, true, 4, .call { callee := .value (.func 13), args := #[], argTypes := #[] }⟩,
        ⟨some 6, .none, true, 4, .unOp .not 4 (.tmp 5)⟩])
    (.keep [2, 3, 6]
    (.cond (.tmp 6)
      (.seq
        (.region [⟨some 4, .none, true, 4, .assign (.const (.bool false))⟩])
      .ret)
      .skip)))
  (.seq
    (.seq
      (.region [⟨some 7, .none, true, 26, .load 26 (.tmp 2)⟩,
        ⟨some 8, .none, true, 4, .call { callee := .value (.func 14), args := #[.tmp 7], argTypes := #[26] }⟩,
        ⟨some 9, .none, true, 4, .unOp .not 4 (.tmp 8)⟩,
        ⟨some 10, .none, true, 4, .move (.tmp 9)⟩,
        ⟨some 11, .some 10 false, true, 26, .load 26 (.tmp 3)⟩,
        ⟨some 12, .some 10 false, true, 4, .call { callee := .value (.func 14), args := #[.tmp 11], argTypes := #[26] }⟩,
        ⟨some 13, .some 10 false, true, 4, .unOp .not 4 (.tmp 12)⟩,
        ⟨some 14, .none, true, 4, .pick (.tmp 10) (.const (.bool true)) (.tmp 13)⟩])
    (.keep [2, 3, 14]
    (.cond (.tmp 14)
      (.seq
        (.region [⟨some 4, .none, true, 4, .assign (.const (.bool true))⟩])
      .ret)
      .skip)))
  (.seq
    (.regionD [⟨some 15, .none, 26, .load 26 (.tmp 2), 0, []⟩,
      ⟨some 16, .none, 29, .call { callee := .value (.func 15), args := #[.tmp 15], argTypes := #[26] }, 1, []⟩,
      ⟨some 17, .none, 26, .load 26 (.tmp 3), 2, [1]⟩,
      ⟨some 18, .none, 29, .call { callee := .value (.func 15), args := #[.tmp 17], argTypes := #[26] }, 3, []⟩,
      ⟨some 19, .none, 4, .call { callee := .value (.func 24), args := #[.tmp 16, .tmp 18], argTypes := #[29, 29] }, 4, []⟩,
      ⟨some 20, .none, 26, .load 26 (.tmp 2), 5, [1, 3, 4]⟩,
      ⟨some 21, .none, 26, .load 26 (.tmp 3), 6, [1, 3, 4]⟩,
      ⟨some 22, .none, 4, .binOp .eql 26 (.tmp 20) (.tmp 21) 26, 7, []⟩,
      ⟨some 23, .none, 4, .binOp .eql 4 (.tmp 19) (.tmp 22) 4, 8, []⟩,
      ⟨some 4, .none, 4, .assign (.tmp 23), 9, []⟩])
  .ret)))))
theorem t_reevelaw11_ThingApart : FnT Try.prog f_reevelaw11_ThingApart rc_reevelaw11_ThingApart [.tmp 4] 2 := ⟨⟨[5], Try.f6, _, Try.func6, rfl, by kernel_rfl, by kernel_rfl, by kernel_rfl, rfl, by decide⟩, by kernel_rfl⟩
/-- reeve/reevelaw11.ThingNew -/
abbrev f_reevelaw11_ThingNew : FuncId := 7
def rc_reevelaw11_ThingNew : RCode :=
  (.seq
    (.region [⟨some 6, .none, true, 4, .assign (.const (.bool false))⟩])
  (.keep [0, 1, 2]
  (.seq
    (.seq
      (.region [⟨some 11, .none, true, 4, .call { callee := .value (.func 13), args := #[], argTypes := #[] }⟩,
        ⟨some 12, .none, true, 4, .unOp .not 4 (.tmp 11)⟩])
    (.keep [0, 1, 2, 12]
    (.cond (.tmp 12)
      (.seq
        (.region [⟨some 6, .none, true, 4, .assign (.const (.bool false))⟩])
      .ret)
      .skip)))
  (.seq
    (.region [⟨some 14, .none, true, 3, .move (.tmp 0)⟩,
      ⟨some 15, .none, true, 3, .move (.tmp 1)⟩,
      ⟨some 16, .none, true, 3, .move (.tmp 2)⟩,
      ⟨some 17, .none, true, 33, .call { callee := .value (.func 17), args := #[.tmp 14, .tmp 15, .tmp 16], argTypes := #[3, 3, 3] }⟩,
      ⟨some 13, .none, true, 33, .move (.tmp 17)⟩,
      ⟨some 18, .none, true, 26, .extract (.tmp 13) 0⟩,
      ⟨some 19, .none, true, 4, .extract (.tmp 13) 1⟩,
      ⟨some 7, .none, true, 0, .alloc 26⟩,
      ⟨none, .none, true, 0, .store 26 (.tmp 7) (.tmp 18)⟩,
      ⟨some 8, .none, true, 4, .assign (.tmp 19)⟩])
  (.keep [0, 1, 7, 8]
  (.seq
    (.region [⟨some 21, .none, true, 3, .move (.tmp 0)⟩,
      ⟨some 22, .none, true, 3, .move (.tmp 1)⟩,
      ⟨some 23, .none, true, 31, .call { callee := .value (.func 16), args := #[.tmp 21, .tmp 22], argTypes := #[3, 3] }⟩,
      ⟨some 20, .none, true, 31, .move (.tmp 23)⟩,
      ⟨some 24, .none, true, 3, .extract (.tmp 20) 0⟩,
      ⟨some 25, .none, true, 4, .extract (.tmp 20) 1⟩,
      ⟨some 9, .none, true, 3, .assign (.tmp 24)⟩,
      ⟨some 10, .none, true, 4, .assign (.tmp 25)⟩])
  (.keep [0, 7, 8, 9, 10]
  (.seq
    (.seq
      (.region [⟨some 26, .none, true, 4, .move (.tmp 8)⟩,
        ⟨some 27, .none, true, 4, .unOp .not 4 (.tmp 26)⟩])
    (.keep [0, 7, 9, 10, 27]
    (.cond (.tmp 27)
      (.seq
        (.region [⟨some 28, .none, true, 26, .load 26 (.tmp 7)⟩,
          ⟨some 29, .none, true, 26, .build 26 #[]⟩,
          ⟨some 30, .none, true, 4, .binOp .eql 26 (.tmp 28) (.tmp 29) 26⟩,
          ⟨some 31, .none, true, 4, .move (.tmp 30)⟩,
          ⟨some 32, .some 31 true, true, 4, .move (.tmp 10)⟩,
          ⟨some 33, .some 31 true, true, 4, .unOp .not 4 (.tmp 32)⟩,
          ⟨some 34, .some 31 true, true, 4, .move (.tmp 33)⟩,
          ⟨some 35, .some 34 false, true, 3, .move (.tmp 0)⟩,
          ⟨some 36, .some 34 false, true, 4, .binOp .eql 3 (.tmp 35) (.const (.int .i64 2)) 3⟩,
          ⟨some 37, .some 31 true, true, 4, .pick (.tmp 34) (.const (.bool true)) (.tmp 36)⟩,
          ⟨some 38, .none, true, 4, .pick (.tmp 31) (.tmp 37) (.const (.bool false))⟩,
          ⟨some 6, .none, true, 4, .assign (.tmp 38)⟩])
      .ret)
      .skip)))
  (.seq
    (.region [⟨some 39, .none, true, 4, .move (.tmp 10)⟩,
      ⟨some 40, .none, true, 4, .move (.tmp 39)⟩,
      ⟨some 41, .some 40 true, true, 3, .move (.tmp 9)⟩,
      ⟨some 42, .some 40 true, true, 4, .binOp .geq 3 (.tmp 41) (.const (.int .i64 1)) 3⟩,
      ⟨some 43, .none, true, 4, .pick (.tmp 40) (.tmp 42) (.const (.bool false))⟩,
      ⟨some 44, .none, true, 4, .move (.tmp 43)⟩,
      ⟨some 45, .some 44 true, true, 26, .load 26 (.tmp 7)⟩,
      ⟨some 46, .some 44 true, true, 4, .call { callee := .value (.func 14), args := #[.tmp 45], argTypes := #[26] }⟩,
      ⟨some 47, .none, true, 4, .pick (.tmp 44) (.tmp 46) (.const (.bool false))⟩,
      ⟨some 48, .none, true, 4, .move (.tmp 47)⟩,
      ⟨some 49, .some 48 true, true, 0, .fieldAddr 26 (.tmp 7) 0⟩,
      ⟨some 50, .some 48 true, true, 3, .load 3 (.tmp 49)⟩,
      ⟨some 51, .some 48 true, true, 3, .move (.tmp 0)⟩,
      ⟨some 52, .some 48 true, true, 4, .binOp .eql 3 (.tmp 50) (.tmp 51) 3⟩,
      ⟨some 53, .none, true, 4, .pick (.tmp 48) (.tmp 52) (.const (.bool false))⟩,
      ⟨some 54, .none, true, 4, .move (.tmp 53)⟩,
      ⟨some 55, .some 54 true, true, 0, .fieldAddr 26 (.tmp 7) 4⟩,
      ⟨some 56, .some 54 true, true, 3, .load 3 (.tmp 55)⟩,
      ⟨some 57, .some 54 true, true, 4, .binOp .eql 3 (.tmp 56) (.const (.int .i64 0)) 3⟩,
      ⟨some 58, .none, true, 4, .pick (.tmp 54) (.tmp 57) (.const (.bool false))⟩,
      ⟨some 59, .none, true, 4, .move (.tmp 58)⟩,
      ⟨some 60, .some 59 true, true, 0, .fieldAddr 26 (.tmp 7) 7⟩,
      ⟨some 61, .some 59 true, true, 4, .load 4 (.tmp 60)⟩,
      ⟨some 62, .some 59 true, true, 4, .unOp .not 4 (.tmp 61)⟩,
      ⟨some 63, .none, true, 4, .pick (.tmp 59) (.tmp 62) (.const (.bool false))⟩,
      ⟨some 64, .none, true, 4, .move (.tmp 63)⟩,
      ⟨some 65, .some 64 true, true, 0, .fieldAddr 26 (.tmp 7) 8⟩,
      ⟨some 66, .some 64 true, true, 23, .load 23 (.tmp 65)⟩,
      ⟨some 67, .some 64 true, true, 4, .binOp .eql 23 (.tmp 66) (.const (.int .u64 0)) 23⟩,
      ⟨some 68, .none, true, 4, .pick (.tmp 64) (.tmp 67) (.const (.bool false))⟩,
      ⟨some 69, .none, true, 4, .move (.tmp 68)⟩,
      ⟨some 70, .some 69 true, true, 0, .fieldAddr 26 (.tmp 7) 9⟩,
      ⟨some 71, .some 69 true, true, 24, .load 24 (.tmp 70)⟩,
      ⟨some 72, .some 69 true, true, 24, .build 24 #[]⟩,
      ⟨some 73, .some 69 true, true, 4, .binOp .eql 24 (.tmp 71) (.tmp 72) 24⟩,
      ⟨some 74, .none, true, 4, .pick (.tmp 69) (.tmp 73) (.const (.bool false))⟩,
      ⟨some 6, .none, true, 4, .assign (.tmp 74)⟩])
  .ret)))))))))
theorem t_reevelaw11_ThingNew : FnT Try.prog f_reevelaw11_ThingNew rc_reevelaw11_ThingNew [.tmp 6] 3 := ⟨⟨[], Try.f7, _, Try.func7, rfl, by kernel_rfl, by kernel_rfl, by kernel_rfl, rfl, by decide⟩, by kernel_rfl⟩
/-- reeve/reevelaw11.awake -/
abbrev f_reevelaw11_awake : FuncId := 13
def rc_reevelaw11_awake : RCode :=
  (.seq
    (.region [⟨some 0, .none, true, 4, .assign (.const (.bool false))⟩])
  (.keep []
  (.seq
    (.region [⟨some 8, .none, true, 31, .call { callee := .value (.func 16), args := #[.const (.int .i64 2), .const (.int .i64 3)], argTypes := #[3, 3] }⟩,
      ⟨some 7, .none, true, 31, .move (.tmp 8)⟩,
      ⟨some 9, .none, true, 3, .extract (.tmp 7) 0⟩,
      ⟨some 10, .none, true, 4, .extract (.tmp 7) 1⟩,
      ⟨some 1, .none, true, 3, .assign (.tmp 9)⟩,
      ⟨some 2, .none, true, 4, .assign (.tmp 10)⟩])
  (.keep [1, 2]
  (.seq
    (.region [⟨some 12, .none, true, 33, .call { callee := .value (.func 17), args := #[.const (.int .i64 2), .const (.int .i64 3), .const (.int .i64 8)], argTypes := #[3, 3, 3] }⟩,
      ⟨some 11, .none, true, 33, .move (.tmp 12)⟩,
      ⟨some 13, .none, true, 26, .extract (.tmp 11) 0⟩,
      ⟨some 14, .none, true, 4, .extract (.tmp 11) 1⟩,
      ⟨some 3, .none, true, 0, .alloc 26⟩,
      ⟨none, .none, true, 0, .store 26 (.tmp 3) (.tmp 13)⟩,
      ⟨some 4, .none, true, 4, .assign (.tmp 14)⟩])
  (.keep [1, 2, 3, 4]
  (.seq
    (.region [⟨some 16, .none, true, 26, .load 26 (.tmp 3)⟩,
      ⟨some 17, .none, true, 29, .call { callee := .value (.func 15), args := #[.tmp 16], argTypes := #[26] }⟩,
      ⟨some 18, .none, true, 33, .call { callee := .value (.func 18), args := #[.tmp 17], argTypes := #[29] }⟩,
      ⟨some 15, .none, true, 33, .move (.tmp 18)⟩,
      ⟨some 19, .none, true, 26, .extract (.tmp 15) 0⟩,
      ⟨some 20, .none, true, 4, .extract (.tmp 15) 1⟩,
      ⟨some 5, .none, true, 0, .alloc 26⟩,
      ⟨none, .none, true, 0, .store 26 (.tmp 5) (.tmp 19)⟩,
      ⟨some 6, .none, true, 4, .assign (.tmp 20)⟩])
  (.keep [1, 2, 3, 4, 5, 6]
  (.seq
    (.region [⟨some 21, .none, true, 4, .move (.tmp 2)⟩,
      ⟨some 22, .none, true, 4, .move (.tmp 21)⟩,
      ⟨some 23, .some 22 true, true, 3, .move (.tmp 1)⟩,
      ⟨some 24, .some 22 true, true, 4, .binOp .eql 3 (.tmp 23) (.const (.int .i64 8)) 3⟩,
      ⟨some 25, .none, true, 4, .pick (.tmp 22) (.tmp 24) (.const (.bool false))⟩,
      ⟨some 26, .none, true, 4, .move (.tmp 25)⟩,
      ⟨some 27, .some 26 true, true, 4, .move (.tmp 4)⟩,
      ⟨some 28, .none, true, 4, .pick (.tmp 26) (.tmp 27) (.const (.bool false))⟩,
      ⟨some 29, .none, true, 4, .move (.tmp 28)⟩,
      ⟨some 30, .some 29 true, true, 26, .load 26 (.tmp 3)⟩,
      ⟨some 31, .some 29 true, true, 26, .build 26 #[(0, .const (.int .i64 2)), (1, .const (.int .i64 3)), (2, .const (.int .i64 8))]⟩,
      ⟨some 32, .some 29 true, true, 4, .binOp .eql 26 (.tmp 30) (.tmp 31) 26⟩,
      ⟨some 33, .none, true, 4, .pick (.tmp 29) (.tmp 32) (.const (.bool false))⟩,
      ⟨some 34, .none, true, 4, .move (.tmp 33)⟩,
      ⟨some 35, .some 34 true, true, 4, .move (.tmp 6)⟩,
      ⟨some 36, .none, true, 4, .pick (.tmp 34) (.tmp 35) (.const (.bool false))⟩,
      ⟨some 37, .none, true, 4, .move (.tmp 36)⟩,
      ⟨some 38, .some 37 true, true, 26, .load 26 (.tmp 5)⟩,
      ⟨some 39, .some 37 true, true, 26, .load 26 (.tmp 3)⟩,
      ⟨some 40, .some 37 true, true, 4, .binOp .eql 26 (.tmp 38) (.tmp 39) 26⟩,
      ⟨some 41, .none, true, 4, .pick (.tmp 37) (.tmp 40) (.const (.bool false))⟩,
      ⟨some 0, .none, true, 4, .assign (.tmp 41)⟩])
  .ret)))))))))
theorem t_reevelaw11_awake : FnT Try.prog f_reevelaw11_awake rc_reevelaw11_awake [.tmp 0] 0 := ⟨⟨[], Try.f13, _, Try.func13, rfl, by kernel_rfl, by kernel_rfl, by kernel_rfl, rfl, by decide⟩, by kernel_rfl⟩
/-- reeve/thing.Good -/
abbrev f_thing_Good : FuncId := 14
def rc_thing_Good : RCode :=
  (.seq
    (.region [⟨some 1, .none, true, 0, .box 26 (.tmp 0)⟩,
      ⟨some 2, .none, true, 4, .assign (.const (.bool false))⟩])
  (.keep [1]
  (.seq
    (.seq
      (.region [⟨some 3, .none, false, 26, .load 26 (.tmp 1)⟩,
        ⟨some 4, .none, false, 26, .call { callee := .value (.func 41), args := #[.tmp 3], argTypes := #[26] }⟩,
        ⟨some 5, .none, false, 26, .load 26 (.tmp 1)⟩,
        ⟨some 6, .none, true, 4, .binOp .neq 26 (.tmp 4) (.tmp 5) 26⟩])
    (.keep [1, 6]
    (.cond (.tmp 6)
      (.seq
        (.region [⟨some 2, .none, true, 4, .assign (.const (.bool false))⟩])
      .ret)
      .skip)))
  (.seq
    (.seq
      (.region [⟨some 7, .none, true, 0, .fieldAddr 26 (.tmp 1) 0⟩,
        ⟨some 8, .none, true, 3, .load 3 (.tmp 7)⟩])
    (.keep [1, 8]
    (.block 0
      (.seq
        (.region [⟨some 10, .none, true, 4, .binOp .eql 3 (.tmp 8) (.const (.int .i64 1)) 3⟩,
          ⟨some 9, .none, true, 4, .assign (.tmp 10)⟩])
      (.keep [1, 8, 9]
      (.cond (.tmp 9)
        (.seq
          (.region [⟨some 11, .none, true, 0, .fieldAddr 26 (.tmp 1) 3⟩,
            ⟨some 12, .none, true, 3, .load 3 (.tmp 11)⟩,
            ⟨some 13, .none, true, 4, .call { callee := .value (.func 42), args := #[.tmp 12, .const (.int .i64 1), .const (.int .i64 4096)], argTypes := #[3, 3, 3] }⟩,
            ⟨some 14, .none, true, 4, .move (.tmp 13)⟩,
            ⟨some 15, .some 14 true, true, 0, .fieldAddr 26 (.tmp 1) 4⟩,
            ⟨some 16, .some 14 true, true, 3, .load 3 (.tmp 15)⟩,
            ⟨some 17, .some 14 true, true, 0, .fieldAddr 26 (.tmp 1) 3⟩,
            ⟨some 18, .some 14 true, true, 3, .load 3 (.tmp 17)⟩,
            ⟨some 19, .some 14 true, true, 4, .call { callee := .value (.func 42), args := #[.tmp 16, .const (.int .i64 0), .tmp 18], argTypes := #[3, 3, 3] }⟩,
            ⟨some 20, .none, true, 4, .pick (.tmp 14) (.tmp 19) (.const (.bool false))⟩,
            ⟨some 2, .none, true, 4, .assign (.tmp 20)⟩])
        .ret)
        (.seq
          (.region [⟨some 22, .none, true, 4, .binOp .eql 3 (.tmp 8) (.const (.int .i64 2)) 3⟩,
            ⟨some 21, .none, true, 4, .assign (.tmp 22)⟩])
        (.keep [1, 8, 21]
        (.cond (.tmp 21)
          (.seq
            (.region [⟨some 23, .none, true, 0, .fieldAddr 26 (.tmp 1) 1⟩,
              ⟨some 24, .none, true, 3, .load 3 (.tmp 23)⟩,
              ⟨some 25, .none, true, 4, .call { callee := .value (.func 42), args := #[.tmp 24, .const (.int .i64 1), .const (.int .i64 4)], argTypes := #[3, 3, 3] }⟩,
              ⟨some 26, .none, true, 4, .move (.tmp 25)⟩,
              ⟨some 27, .some 26 true, false, 0, .fieldAddr 26 (.tmp 1) 2⟩,
              ⟨some 28, .some 26 true, false, 3, .load 3 (.tmp 27)⟩,
              ⟨some 29, .some 26 true, false, 0, .fieldAddr 26 (.tmp 1) 1⟩,
              ⟨some 30, .some 26 true, false, 3, .load 3 (.tmp 29)⟩,
              ⟨some 31, .some 26 true, false, 3, .binOp .shl 3 (.const (.int .i64 1)) (.tmp 30) 3⟩,
              ⟨some 32, .some 26 true, false, 3, .binOp .sub 3 (.const (.int .i64 96)) (.tmp 31) 3⟩,
              ⟨some 33, .some 26 true, true, 4, .call { callee := .value (.func 42), args := #[.tmp 28, .const (.int .i64 0), .tmp 32], argTypes := #[3, 3, 3] }⟩,
              ⟨some 34, .none, true, 4, .pick (.tmp 26) (.tmp 33) (.const (.bool false))⟩,
              ⟨some 2, .none, true, 4, .assign (.tmp 34)⟩])
          .ret)
          (.seq
            (.region [⟨some 36, .none, true, 4, .binOp .eql 3 (.tmp 8) (.const (.int .i64 3)) 3⟩,
              ⟨some 35, .none, true, 4, .assign (.tmp 36)⟩])
          (.keep [1, 35]
          (.cond (.tmp 35)
            (.seq
              (.region [⟨some 37, .none, true, 0, .fieldAddr 26 (.tmp 1) 6⟩,
                ⟨some 38, .none, true, 3, .load 3 (.tmp 37)⟩,
                ⟨some 39, .none, true, 4, .call { callee := .value (.func 42), args := #[.tmp 38, .const (.int .i64 0), .const (.int .i64 65535)], argTypes := #[3, 3, 3] }⟩,
                ⟨some 40, .none, true, 4, .move (.tmp 39)⟩,
                ⟨some 41, .some 40 true, true, 0, .fieldAddr 26 (.tmp 1) 5⟩,
                ⟨some 42, .some 40 true, true, 3, .load 3 (.tmp 41)⟩,
                ⟨some 43, .some 40 true, true, 4, .call { callee := .value (.func 42), args := #[.tmp 42, .const (.int .i64 0), .const (.int .i64 96)], argTypes := #[3, 3, 3] }⟩,
                ⟨some 44, .none, true, 4, .pick (.tmp 40) (.tmp 43) (.const (.bool false))⟩,
                ⟨some 2, .none, true, 4, .assign (.tmp 44)⟩])
            .ret)
            .skip))))))))))))
  (.seq
    (.region [⟨some 2, .none, true, 4, .assign (.const (.bool true))⟩])
  .ret)))))
theorem t_thing_Good : FnT Try.prog f_thing_Good rc_thing_Good [.tmp 2] 1 := ⟨⟨[], Try.f14, _, Try.func14, rfl, by kernel_rfl, by kernel_rfl, by kernel_rfl, rfl, by decide⟩, by kernel_rfl⟩
/-- reeve/thing.Put -/
abbrev f_thing_Put : FuncId := 15
def rc_thing_Put : RCode :=
  (.seq
    (.region [⟨some 1, .none, true, 0, .box 26 (.tmp 0)⟩,
      ⟨some 2, .none, true, 29, .assign (.const (.slice none 0 0))⟩])
  (.keep [1]
  (.seq
    (.seq
      (.region [⟨some 8, .none, true, 26, .load 26 (.tmp 1)⟩,
        ⟨some 9, .none, true, 4, .call { callee := .value (.func 14), args := #[.tmp 8], argTypes := #[26] }⟩,
        ⟨some 10, .none, true, 4, .unOp .not 4 (.tmp 9)⟩])
    (.keep [1, 10]
    (.cond (.tmp 10)
      (.seq
        (.region [⟨some 2, .none, true, 29, .assign (.const (.slice none 0 0))⟩])
      .ret)
      .skip)))
  (.seq
    (.region [⟨some 3, .none, true, 23, .assign (.const (.int .u64 0))⟩])
  (.keep [1, 3]
  (.seq
    (.seq
      (.region [⟨some 11, .none, true, 0, .fieldAddr 26 (.tmp 1) 7⟩,
        ⟨some 12, .none, true, 4, .load 4 (.tmp 11)⟩])
    (.keep [1, 3, 12]
    (.cond (.tmp 12)
      (.region [⟨some 3, .none, true, 23, .assign (.const (.int .u64 1))⟩])
      .skip)))
  (.seq
    (.regionD [⟨some 14, .none, 85, .call { callee := .value (.func 44), args := #[], argTypes := #[] }, 0, []⟩,
      ⟨some 15, .none, 0, .fieldAddr 26 (.tmp 1) 0, 1, []⟩,
      ⟨some 16, .none, 3, .load 3 (.tmp 15), 2, [0]⟩,
      ⟨some 17, .none, 23, .convert 3 23 (.tmp 16), 3, []⟩,
      ⟨some 18, .none, 0, .fieldAddr 26 (.tmp 1) 1, 4, []⟩,
      ⟨some 19, .none, 3, .load 3 (.tmp 18), 5, [0]⟩,
      ⟨some 20, .none, 23, .convert 3 23 (.tmp 19), 6, []⟩,
      ⟨some 21, .none, 0, .fieldAddr 26 (.tmp 1) 2, 7, []⟩,
      ⟨some 22, .none, 3, .load 3 (.tmp 21), 8, [0]⟩,
      ⟨some 23, .none, 23, .convert 3 23 (.tmp 22), 9, []⟩,
      ⟨some 24, .none, 23, .move (.tmp 3), 10, []⟩,
      ⟨some 25, .none, 0, .fieldAddr 26 (.tmp 1) 5, 11, []⟩,
      ⟨some 26, .none, 3, .load 3 (.tmp 25), 12, [0]⟩,
      ⟨some 27, .none, 23, .convert 3 23 (.tmp 26), 13, []⟩,
      ⟨some 28, .none, 29, .buildSlice 29 5 #[(0, .tmp 17), (1, .tmp 20), (2, .tmp 23), (3, .tmp 24), (4, .tmp 27)], 14, [0]⟩,
      ⟨some 29, .none, 83, .call { callee := .value (.func 43), args := #[.tmp 14, .tmp 28], argTypes := #[85, 29] }, 15, []⟩,
      ⟨some 13, .none, 83, .move (.tmp 29), 16, []⟩,
      ⟨some 30, .none, 23, .extract (.tmp 13) 0, 17, []⟩,
      ⟨some 31, .none, 4, .extract (.tmp 13) 1, 18, []⟩,
      ⟨some 4, .none, 23, .assign (.tmp 30), 19, []⟩,
      ⟨some 5, .none, 4, .assign (.tmp 31), 20, []⟩])
  (.keep [1, 4]
  (.seq
    (.regionD [⟨some 33, .none, 85, .call { callee := .value (.func 45), args := #[], argTypes := #[] }, 0, []⟩,
      ⟨some 34, .none, 0, .fieldAddr 26 (.tmp 1) 3, 1, []⟩,
      ⟨some 35, .none, 3, .load 3 (.tmp 34), 2, [0]⟩,
      ⟨some 36, .none, 23, .convert 3 23 (.tmp 35), 3, []⟩,
      ⟨some 37, .none, 0, .fieldAddr 26 (.tmp 1) 4, 4, []⟩,
      ⟨some 38, .none, 3, .load 3 (.tmp 37), 5, [0]⟩,
      ⟨some 39, .none, 23, .convert 3 23 (.tmp 38), 6, []⟩,
      ⟨some 40, .none, 0, .fieldAddr 26 (.tmp 1) 6, 7, []⟩,
      ⟨some 41, .none, 3, .load 3 (.tmp 40), 8, [0]⟩,
      ⟨some 42, .none, 23, .convert 3 23 (.tmp 41), 9, []⟩,
      ⟨some 43, .none, 29, .buildSlice 29 3 #[(0, .tmp 36), (1, .tmp 39), (2, .tmp 42)], 10, [0]⟩,
      ⟨some 44, .none, 83, .call { callee := .value (.func 43), args := #[.tmp 33, .tmp 43], argTypes := #[85, 29] }, 11, []⟩,
      ⟨some 32, .none, 83, .move (.tmp 44), 12, []⟩,
      ⟨some 45, .none, 23, .extract (.tmp 32) 0, 13, []⟩,
      ⟨some 46, .none, 4, .extract (.tmp 32) 1, 14, []⟩,
      ⟨some 6, .none, 23, .assign (.tmp 45), 15, []⟩,
      ⟨some 7, .none, 4, .assign (.tmp 46), 16, []⟩])
  (.keep [1, 4, 6]
  (.seq
    (.regionD [⟨some 47, .none, 23, .move (.tmp 4), 0, []⟩,
      ⟨some 48, .none, 23, .move (.tmp 6), 1, []⟩,
      ⟨some 49, .none, 0, .fieldAddr 26 (.tmp 1) 8, 2, []⟩,
      ⟨some 50, .none, 23, .load 23 (.tmp 49), 3, []⟩,
      ⟨some 51, .none, 29, .buildSlice 29 3 #[(0, .tmp 47), (1, .tmp 48), (2, .tmp 50)], 4, []⟩,
      ⟨some 52, .none, 0, .fieldAddr 26 (.tmp 1) 9, 5, []⟩,
      ⟨some 53, .none, 29, .slice 24 (.tmp 52) none none none, 6, [4]⟩,
      ⟨some 54, .none, 29, .call { callee := .builtin .append, args := #[.tmp 51, .tmp 53], argTypes := #[29, 29] }, 7, []⟩,
      ⟨some 55, .none, 29, .buildSlice 29 1 #[(0, .const (.int .u64 0))], 8, [3, 4, 6, 7]⟩,
      ⟨some 56, .none, 29, .call { callee := .builtin .append, args := #[.tmp 54, .tmp 55], argTypes := #[29, 29] }, 9, []⟩,
      ⟨some 2, .none, 29, .assign (.tmp 56), 10, []⟩])
  .ret)))))))))))
theorem t_thing_Put : FnT Try.prog f_thing_Put rc_thing_Put [.tmp 2] 1 := ⟨⟨[6, 7, 8], Try.f15, _, Try.func15, rfl, by kernel_rfl, by kernel_rfl, by kernel_rfl, rfl, by decide⟩, by kernel_rfl⟩
/-- reeve/thing.Cost -/
abbrev f_thing_Cost : FuncId := 16
def rc_thing_Cost : RCode :=
  (.seq
    (.region [⟨some 4, .none, true, 3, .assign (.const (.int .i64 0))⟩,
      ⟨some 5, .none, true, 4, .assign (.const (.bool false))⟩])
  (.keep [0, 1]
  (.seq
    (.seq
      (.region [⟨some 6, .none, true, 3, .move (.tmp 0)⟩])
    (.keep [1, 6]
    (.block 0
      (.seq
        (.region [⟨some 8, .none, true, 4, .binOp .eql 3 (.tmp 6) (.const (.int .i64 1)) 3⟩,
          ⟨some 7, .none, true, 4, .assign (.tmp 8)⟩])
      (.keep [1, 6, 7]
      (.cond (.tmp 7)
        (.seq
          (.region [⟨some 9, .none, true, 3, .move (.tmp 1)⟩,
            ⟨some 10, .none, true, 4, .call { callee := .value (.func 42), args := #[.tmp 9, .const (.int .i64 1), .const (.int .i64 4096)], argTypes := #[3, 3, 3] }⟩])
        (.keep [1, 10]
        (.cond (.tmp 10)
          (.seq
            (.region [⟨some 11, .none, true, 3, .move (.tmp 1)⟩,
              ⟨some 4, .none, true, 3, .assign (.tmp 11)⟩,
              ⟨some 5, .none, true, 4, .assign (.const (.bool true))⟩])
          .ret)
          .skip)))
        (.seq
          (.region [⟨some 13, .none, true, 4, .binOp .eql 3 (.tmp 6) (.const (.int .i64 2)) 3⟩,
            ⟨some 12, .none, true, 4, .assign (.tmp 13)⟩])
        (.keep [1, 6, 12]
        (.cond (.tmp 12)
          (.seq
            (.region [⟨some 14, .none, true, 3, .move (.tmp 1)⟩,
              ⟨some 15, .none, true, 4, .call { callee := .value (.func 42), args := #[.tmp 14, .const (.int .i64 1), .const (.int .i64 4)], argTypes := #[3, 3, 3] }⟩])
          (.keep [1, 15]
          (.cond (.tmp 15)
            (.seq
              (.region [⟨some 16, .none, true, 3, .move (.tmp 1)⟩,
                ⟨some 17, .none, true, 3, .binOp .shl 3 (.const (.int .i64 1)) (.tmp 16) 3⟩,
                ⟨some 4, .none, true, 3, .assign (.tmp 17)⟩,
                ⟨some 5, .none, true, 4, .assign (.const (.bool true))⟩])
            .ret)
            .skip)))
          (.seq
            (.seq
              (.region [⟨some 19, .none, true, 4, .binOp .eql 3 (.tmp 6) (.const (.int .i64 3)) 3⟩,
                ⟨some 18, .none, true, 4, .assign (.tmp 19)⟩])
            (.keep [6, 18]
            (.cond (.tmp 18)
              .skip
              (.region [⟨some 20, .none, true, 4, .binOp .eql 3 (.tmp 6) (.const (.int .i64 4)) 3⟩,
                ⟨some 18, .none, true, 4, .assign (.tmp 20)⟩]))))
          (.cond (.tmp 18)
            (.seq
              (.region [⟨some 4, .none, true, 3, .assign (.const (.int .i64 1))⟩,
                ⟨some 5, .none, true, 4, .assign (.const (.bool true))⟩])
            .ret)
            (.seq
              (.region [⟨some 22, .none, true, 4, .binOp .eql 3 (.tmp 6) (.const (.int .i64 5)) 3⟩,
                ⟨some 21, .none, true, 4, .assign (.tmp 22)⟩])
            (.keep [21]
            (.cond (.tmp 21)
              (.seq
                (.region [⟨some 4, .none, true, 3, .assign (.const (.int .i64 2))⟩,
                  ⟨some 5, .none, true, 4, .assign (.const (.bool true))⟩])
              .ret)
              .skip))))))))))))))
  (.seq
    (.region [⟨some 4, .none, true, 3, .assign (.const (.int .i64 0))⟩,
      ⟨some 5, .none, true, 4, .assign (.const (.bool false))⟩])
  .ret))))
theorem t_thing_Cost : FnT Try.prog f_thing_Cost rc_thing_Cost [.tmp 4, .tmp 5] 2 := ⟨⟨[], Try.f16, _, Try.func16, rfl, by kernel_rfl, by kernel_rfl, by kernel_rfl, rfl, by decide⟩, by kernel_rfl⟩
/-- reeve/thing.New -/
abbrev f_thing_New : FuncId := 17
def rc_thing_New : RCode :=
  (.seq
    (.region [⟨some 6, .none, true, 0, .alloc 26⟩,
      ⟨some 7, .none, true, 4, .assign (.const (.bool false))⟩])
  (.keep [0, 1, 2, 6]
  (.seq
    (.region [⟨some 9, .none, true, 3, .move (.tmp 0)⟩,
      ⟨some 10, .none, true, 26, .build 26 #[(0, .tmp 9)]⟩,
      ⟨some 8, .none, true, 0, .alloc 26⟩,
      ⟨none, .none, true, 0, .store 26 (.tmp 8) (.tmp 10)⟩])
  (.keep [0, 1, 2, 6, 8]
  (.seq
    (.seq
      (.region [⟨some 11, .none, true, 3, .move (.tmp 0)⟩])
    (.keep [1, 2, 6, 8, 11]
    (.block 0
      (.seq
        (.region [⟨some 14, .none, true, 4, .binOp .eql 3 (.tmp 11) (.const (.int .i64 1)) 3⟩,
          ⟨some 13, .none, true, 4, .assign (.tmp 14)⟩])
      (.keep [1, 2, 6, 8, 11, 13]
      (.cond (.tmp 13)
        (.region [⟨some 15, .none, true, 3, .move (.tmp 1)⟩,
          ⟨some 16, .none, true, 0, .fieldAddr 26 (.tmp 8) 3⟩,
          ⟨none, .none, true, 0, .store 3 (.tmp 16) (.tmp 15)⟩])
        (.seq
          (.region [⟨some 18, .none, true, 4, .binOp .eql 3 (.tmp 11) (.const (.int .i64 2)) 3⟩,
            ⟨some 17, .none, true, 4, .assign (.tmp 18)⟩])
        (.keep [1, 2, 6, 8, 11, 17]
        (.cond (.tmp 17)
          (.region [⟨some 19, .none, true, 3, .move (.tmp 1)⟩,
            ⟨some 20, .none, true, 3, .move (.tmp 2)⟩,
            ⟨some 21, .none, true, 0, .fieldAddr 26 (.tmp 8) 1⟩,
            ⟨none, .none, true, 0, .store 3 (.tmp 21) (.tmp 19)⟩,
            ⟨some 22, .none, true, 0, .fieldAddr 26 (.tmp 8) 2⟩,
            ⟨none, .none, true, 0, .store 3 (.tmp 22) (.tmp 20)⟩])
          (.seq
            (.seq
              (.region [⟨some 24, .none, true, 4, .binOp .eql 3 (.tmp 11) (.const (.int .i64 3)) 3⟩,
                ⟨some 23, .none, true, 4, .assign (.tmp 24)⟩])
            (.keep [6, 8, 11, 23]
            (.cond (.tmp 23)
              .skip
              (.seq
                (.region [⟨some 25, .none, true, 4, .binOp .eql 3 (.tmp 11) (.const (.int .i64 4)) 3⟩,
                  ⟨some 23, .none, true, 4, .assign (.tmp 25)⟩])
              (.keep [6, 8, 11, 23]
              (.cond (.tmp 23)
                .skip
                (.region [⟨some 26, .none, true, 4, .binOp .eql 3 (.tmp 11) (.const (.int .i64 5)) 3⟩,
                  ⟨some 23, .none, true, 4, .assign (.tmp 26)⟩])))))))
          (.cond (.tmp 23)
            .skip
            (.seq
              (.region [⟨some 12, .none, true, 26, .build 26 #[]⟩,
                ⟨none, .none, true, 0, .store 26 (.tmp 6) (.tmp 12)⟩,
                ⟨some 7, .none, true, 4, .assign (.const (.bool false))⟩])
            .ret))))))))))))
  (.seq
    (.seq
      (.region [⟨some 27, .none, true, 26, .load 26 (.tmp 8)⟩,
        ⟨some 28, .none, true, 4, .call { callee := .value (.func 14), args := #[.tmp 27], argTypes := #[26] }⟩,
        ⟨some 29, .none, true, 4, .unOp .not 4 (.tmp 28)⟩])
    (.keep [6, 8, 29]
    (.cond (.tmp 29)
      (.seq
        (.region [⟨some 30, .none, true, 26, .build 26 #[]⟩,
          ⟨none, .none, true, 0, .store 26 (.tmp 6) (.tmp 30)⟩,
          ⟨some 7, .none, true, 4, .assign (.const (.bool false))⟩])
      .ret)
      .skip)))
  (.seq
    (.region [⟨some 31, .none, true, 26, .load 26 (.tmp 8)⟩,
      ⟨none, .none, true, 0, .store 26 (.tmp 6) (.tmp 31)⟩,
      ⟨some 7, .none, true, 4, .assign (.const (.bool true))⟩])
  .ret)))))))
theorem t_thing_New : FnT Try.prog f_thing_New rc_thing_New [.cell 6 26, .tmp 7] 3 := ⟨⟨[], Try.f17, _, Try.func17, rfl, by kernel_rfl, by kernel_rfl, by kernel_rfl, rfl, by decide⟩, by kernel_rfl⟩
/-- reeve/thing.Get -/
abbrev f_thing_Get : FuncId := 18
def rc_thing_Get : RCode :=
  (.seq
    (.region [⟨some 2, .none, true, 0, .alloc 26⟩,
      ⟨some 3, .none, true, 4, .assign (.const (.bool false))⟩])
  (.keep [0, 2]
  (.seq
    (.seq
      (.region [⟨some 7, .none, true, 29, .move (.tmp 0)⟩,
        ⟨some 8, .none, true, 3, .call { callee := .builtin .len, args := #[.tmp 7], argTypes := #[29] }⟩,
        ⟨some 9, .none, true, 4, .binOp .neq 3 (.tmp 8) (.const (.int .i64 8)) 3⟩])
    (.keep [0, 2, 9]
    (.cond (.tmp 9)
      (.seq
        (.region [⟨some 10, .none, true, 26, .build 26 #[]⟩,
          ⟨none, .none, true, 0, .store 26 (.tmp 2) (.tmp 10)⟩,
          ⟨some 3, .none, true, 4, .assign (.const (.bool false))⟩])
      .ret)
      .skip)))
  (.seq
    (.regionD [⟨some 11, .none, 29, .move (.tmp 0), 0, []⟩,
      ⟨some 12, .none, 0, .indexAddr 29 (.tmp 11) (.const (.int .i64 0)), 1, []⟩,
      ⟨some 13, .none, 23, .load 23 (.tmp 12), 2, []⟩,
      ⟨some 14, .none, 85, .call { callee := .value (.func 44), args := #[], argTypes := #[] }, 3, [2]⟩,
      ⟨some 15, .none, 29, .call { callee := .value (.func 46), args := #[.tmp 13, .tmp 14], argTypes := #[23, 85] }, 4, []⟩,
      ⟨some 16, .none, 29, .move (.tmp 0), 5, []⟩,
      ⟨some 17, .none, 0, .indexAddr 29 (.tmp 16) (.const (.int .i64 1)), 6, []⟩,
      ⟨some 18, .none, 23, .load 23 (.tmp 17), 7, [3, 4]⟩,
      ⟨some 19, .none, 85, .call { callee := .value (.func 45), args := #[], argTypes := #[] }, 8, [7]⟩,
      ⟨some 20, .none, 29, .call { callee := .value (.func 46), args := #[.tmp 18, .tmp 19], argTypes := #[23, 85] }, 9, []⟩,
      ⟨some 4, .none, 29, .assign (.tmp 15), 10, []⟩,
      ⟨some 5, .none, 29, .assign (.tmp 20), 11, []⟩])
  (.keep [0, 2, 4, 5]
  (.seq
    (.regionD [⟨some 21, .none, 29, .move (.tmp 4), 0, []⟩,
      ⟨some 22, .none, 0, .indexAddr 29 (.tmp 21) (.const (.int .i64 0)), 1, []⟩,
      ⟨some 23, .none, 23, .load 23 (.tmp 22), 2, []⟩,
      ⟨some 24, .none, 3, .convert 23 3 (.tmp 23), 3, []⟩,
      ⟨some 25, .none, 29, .move (.tmp 4), 4, []⟩,
      ⟨some 26, .none, 0, .indexAddr 29 (.tmp 25) (.const (.int .i64 1)), 5, []⟩,
      ⟨some 27, .none, 23, .load 23 (.tmp 26), 6, []⟩,
      ⟨some 28, .none, 3, .convert 23 3 (.tmp 27), 7, []⟩,
      ⟨some 29, .none, 29, .move (.tmp 4), 8, []⟩,
      ⟨some 30, .none, 0, .indexAddr 29 (.tmp 29) (.const (.int .i64 2)), 9, []⟩,
      ⟨some 31, .none, 23, .load 23 (.tmp 30), 10, []⟩,
      ⟨some 32, .none, 3, .convert 23 3 (.tmp 31), 11, []⟩,
      ⟨some 33, .none, 29, .move (.tmp 4), 12, []⟩,
      ⟨some 34, .none, 0, .indexAddr 29 (.tmp 33) (.const (.int .i64 3)), 13, []⟩,
      ⟨some 35, .none, 23, .load 23 (.tmp 34), 14, []⟩,
      ⟨some 36, .none, 4, .binOp .eql 23 (.tmp 35) (.const (.int .u64 1)) 23, 15, []⟩,
      ⟨some 37, .none, 29, .move (.tmp 4), 16, []⟩,
      ⟨some 38, .none, 0, .indexAddr 29 (.tmp 37) (.const (.int .i64 4)), 17, []⟩,
      ⟨some 39, .none, 23, .load 23 (.tmp 38), 18, []⟩,
      ⟨some 40, .none, 3, .convert 23 3 (.tmp 39), 19, []⟩,
      ⟨some 41, .none, 29, .move (.tmp 5), 20, []⟩,
      ⟨some 42, .none, 0, .indexAddr 29 (.tmp 41) (.const (.int .i64 0)), 21, []⟩,
      ⟨some 43, .none, 23, .load 23 (.tmp 42), 22, []⟩,
      ⟨some 44, .none, 3, .convert 23 3 (.tmp 43), 23, []⟩,
      ⟨some 45, .none, 29, .move (.tmp 5), 24, []⟩,
      ⟨some 46, .none, 0, .indexAddr 29 (.tmp 45) (.const (.int .i64 1)), 25, []⟩,
      ⟨some 47, .none, 23, .load 23 (.tmp 46), 26, []⟩,
      ⟨some 48, .none, 3, .convert 23 3 (.tmp 47), 27, []⟩,
      ⟨some 49, .none, 29, .move (.tmp 5), 28, []⟩,
      ⟨some 50, .none, 0, .indexAddr 29 (.tmp 49) (.const (.int .i64 2)), 29, []⟩,
      ⟨some 51, .none, 23, .load 23 (.tmp 50), 30, []⟩,
      ⟨some 52, .none, 3, .convert 23 3 (.tmp 51), 31, []⟩,
      ⟨some 53, .none, 29, .move (.tmp 0), 32, []⟩,
      ⟨some 54, .none, 0, .indexAddr 29 (.tmp 53) (.const (.int .i64 2)), 33, []⟩,
      ⟨some 55, .none, 23, .load 23 (.tmp 54), 34, []⟩,
      ⟨some 56, .none, 26, .build 26 #[(0, .tmp 24), (1, .tmp 28), (2, .tmp 32), (7, .tmp 36), (5, .tmp 40), (3, .tmp 44), (4, .tmp 48), (6, .tmp 52), (8, .tmp 55)], 35, []⟩,
      ⟨some 6, .none, 0, .alloc 26, 36, [2, 6, 10, 14, 18, 22, 26, 30, 34]⟩,
      ⟨none, .none, 0, .store 26 (.tmp 6) (.tmp 56), 37, []⟩])
  (.keep [0, 2, 6]
  (.seq
    (.region [⟨some 57, .none, false, 0, .fieldAddr 26 (.tmp 6) 9⟩,
      ⟨some 58, .none, false, 29, .slice 24 (.tmp 57) none none none⟩,
      ⟨some 59, .none, false, 29, .move (.tmp 0)⟩,
      ⟨some 60, .none, false, 29, .slice 29 (.tmp 59) (some (.const (.int .i64 3))) none none⟩,
      ⟨some 61, .none, true, 3, .call { callee := .builtin .copy, args := #[.tmp 58, .tmp 60], argTypes := #[29, 29] }⟩])
  (.keep [0, 2, 6]
  (.seq
    (.seq
      (.region [⟨some 62, .none, true, 26, .load 26 (.tmp 6)⟩,
        ⟨some 63, .none, true, 29, .call { callee := .value (.func 15), args := #[.tmp 62], argTypes := #[26] }⟩,
        ⟨some 64, .none, true, 29, .move (.tmp 0)⟩,
        ⟨some 65, .none, true, 4, .call { callee := .value (.func 47), args := #[.tmp 63, .tmp 64], argTypes := #[29, 29] }⟩,
        ⟨some 66, .none, true, 4, .unOp .not 4 (.tmp 65)⟩])
    (.keep [2, 6, 66]
    (.cond (.tmp 66)
      (.seq
        (.region [⟨some 67, .none, true, 26, .build 26 #[]⟩,
          ⟨none, .none, true, 0, .store 26 (.tmp 2) (.tmp 67)⟩,
          ⟨some 3, .none, true, 4, .assign (.const (.bool false))⟩])
      .ret)
      .skip)))
  (.seq
    (.region [⟨some 68, .none, true, 26, .load 26 (.tmp 6)⟩,
      ⟨none, .none, true, 0, .store 26 (.tmp 2) (.tmp 68)⟩,
      ⟨some 3, .none, true, 4, .assign (.const (.bool true))⟩])
  .ret)))))))))))
theorem t_thing_Get : FnT Try.prog f_thing_Get rc_thing_Get [.cell 2 26, .tmp 3] 1 := ⟨⟨[3, 4], Try.f18, _, Try.func18, rfl, by kernel_rfl, by kernel_rfl, by kernel_rfl, rfl, by decide⟩, by kernel_rfl⟩
/-- reeve/reeveref11.GetThing -/
abbrev f_reeveref11_GetThing : FuncId := 19
def rc_reeveref11_GetThingl0 : RCode :=
  (.seq
    (.seq
      (.region [⟨some 75, .none, true, 3, .move (.tmp 8)⟩,
        ⟨some 76, .none, true, 4, .binOp .lss 3 (.tmp 75) (.const (.int .i64 8)) 3⟩])
    (.keep [0, 2, 6, 7, 8, 76]
    (.cond (.tmp 76)
      .skip
      (.exit 0))))
  (.seq
    (.block 1
      (.seq
        (.region [⟨some 79, .none, false, 29, .move (.tmp 7)⟩,
          ⟨some 80, .none, false, 3, .move (.tmp 8)⟩,
          ⟨some 81, .none, false, 0, .indexAddr 29 (.tmp 79) (.tmp 80)⟩,
          ⟨some 82, .none, false, 23, .load 23 (.tmp 81)⟩,
          ⟨some 83, .none, false, 29, .move (.tmp 0)⟩,
          ⟨some 84, .none, false, 3, .move (.tmp 8)⟩,
          ⟨some 85, .none, false, 0, .indexAddr 29 (.tmp 83) (.tmp 84)⟩,
          ⟨some 86, .none, false, 23, .load 23 (.tmp 85)⟩,
          ⟨some 87, .none, true, 4, .binOp .neq 23 (.tmp 82) (.tmp 86) 23⟩])
      (.keep [0, 2, 6, 7, 8, 87]
      (.cond (.tmp 87)
        (.seq
          (.region [⟨some 88, .none, true, 36, .build 36 #[]⟩,
            ⟨none, .none, true, 0, .store 36 (.tmp 2) (.tmp 88)⟩,
            ⟨some 3, .none, true, 4, .assign (.const (.bool false))⟩])
        .ret)
        .skip))))
  (.keep [0, 2, 6, 7, 8]
  (.region [⟨some 77, .none, true, 3, .move (.tmp 8)⟩,
    ⟨some 78, .none, true, 3, .binOp .add 3 (.tmp 77) (.const (.int .i64 1)) 3⟩,
    ⟨some 8, .none, true, 3, .assign (.tmp 78)⟩]))))
def rc_reeveref11_GetThing : RCode :=
  (.seq
    (.region [⟨some 2, .none, true, 0, .alloc 36⟩,
      ⟨some 3, .none, true, 4, .assign (.const (.bool false))⟩])
  (.keep [0, 2]
  (.seq
    (.seq
      (.region [⟨some 9, .none, true, 29, .move (.tmp 0)⟩,
        ⟨some 10, .none, true, 3, .call { callee := .builtin .len, args := #[.tmp 9], argTypes := #[29] }⟩,
        ⟨some 11, .none, true, 4, .binOp .neq 3 (.tmp 10) (.const (.int .i64 8)) 3⟩])
    (.keep [0, 2, 11]
    (.cond (.tmp 11)
      (.seq
        (.region [⟨some 12, .none, true, 36, .build 36 #[]⟩,
          ⟨none, .none, true, 0, .store 36 (.tmp 2) (.tmp 12)⟩,
          ⟨some 3, .none, true, 4, .assign (.const (.bool false))⟩])
      .ret)
      .skip)))
  (.seq
    (.region [⟨some 13, .none, false, 29, .move (.tmp 0)⟩,
      ⟨some 14, .none, false, 0, .indexAddr 29 (.tmp 13) (.const (.int .i64 0))⟩,
      ⟨some 15, .none, false, 23, .load 23 (.tmp 14)⟩,
      ⟨some 16, .none, false, 29, .move (.tmp 0)⟩,
      ⟨some 17, .none, false, 0, .indexAddr 29 (.tmp 16) (.const (.int .i64 1))⟩,
      ⟨some 18, .none, false, 23, .load 23 (.tmp 17)⟩,
      ⟨some 4, .none, false, 23, .assign (.tmp 15)⟩,
      ⟨some 5, .none, true, 23, .assign (.tmp 18)⟩])
  (.keep [0, 2, 4, 5]
  (.seq
    (.regionD [⟨some 19, .none, 23, .move (.tmp 4), 0, []⟩,
      ⟨some 20, .none, 23, .binOp .rem 23 (.tmp 19) (.const (.int .u64 256)) 23, 1, []⟩,
      ⟨some 21, .none, 3, .convert 23 3 (.tmp 20), 2, []⟩,
      ⟨some 22, .none, 23, .move (.tmp 4), 3, []⟩,
      ⟨some 23, .none, 23, .binOp .quo 23 (.tmp 22) (.const (.int .u64 256)) 23, 4, []⟩,
      ⟨some 24, .none, 23, .binOp .rem 23 (.tmp 23) (.const (.int .u64 256)) 23, 5, []⟩,
      ⟨some 25, .none, 3, .convert 23 3 (.tmp 24), 6, []⟩,
      ⟨some 26, .none, 23, .move (.tmp 4), 7, []⟩,
      ⟨some 27, .none, 23, .binOp .quo 23 (.tmp 26) (.const (.int .u64 65536)) 23, 8, []⟩,
      ⟨some 28, .none, 23, .binOp .rem 23 (.tmp 27) (.const (.int .u64 256)) 23, 9, []⟩,
      ⟨some 29, .none, 3, .convert 23 3 (.tmp 28), 10, []⟩,
      ⟨some 30, .none, 23, .move (.tmp 4), 11, []⟩,
      ⟨some 31, .none, 23, .binOp .quo 23 (.tmp 30) (.const (.int .u64 65536)) 23, 12, []⟩,
      ⟨some 32, .none, 23, .binOp .quo 23 (.tmp 31) (.const (.int .u64 256)) 23, 13, []⟩,
      ⟨some 33, .none, 23, .binOp .rem 23 (.tmp 32) (.const (.int .u64 256)) 23, 14, []⟩,
      ⟨some 34, .none, 4, .binOp .eql 23 (.tmp 33) (.const (.int .u64 1)) 23, 15, []⟩,
      ⟨some 35, .none, 23, .move (.tmp 4), 16, []⟩,
      ⟨some 36, .none, 23, .binOp .quo 23 (.tmp 35) (.const (.int .u64 65536)) 23, 17, []⟩,
      ⟨some 37, .none, 23, .binOp .quo 23 (.tmp 36) (.const (.int .u64 65536)) 23, 18, []⟩,
      ⟨some 38, .none, 23, .binOp .rem 23 (.tmp 37) (.const (.int .u64 256)) 23, 19, []⟩,
      ⟨some 39, .none, 3, .convert 23 3 (.tmp 38), 20, []⟩,
      ⟨some 40, .none, 23, .move (.tmp 5), 21, []⟩,
      ⟨some 41, .none, 23, .binOp .rem 23 (.tmp 40) (.const (.int .u64 65536)) 23, 22, []⟩,
      ⟨some 42, .none, 3, .convert 23 3 (.tmp 41), 23, []⟩,
      ⟨some 43, .none, 23, .move (.tmp 5), 24, []⟩,
      ⟨some 44, .none, 23, .binOp .quo 23 (.tmp 43) (.const (.int .u64 65536)) 23, 25, []⟩,
      ⟨some 45, .none, 23, .binOp .rem 23 (.tmp 44) (.const (.int .u64 65536)) 23, 26, []⟩,
      ⟨some 46, .none, 3, .convert 23 3 (.tmp 45), 27, []⟩,
      ⟨some 47, .none, 23, .move (.tmp 5), 28, []⟩,
      ⟨some 48, .none, 23, .binOp .quo 23 (.tmp 47) (.const (.int .u64 65536)) 23, 29, []⟩,
      ⟨some 49, .none, 23, .binOp .quo 23 (.tmp 48) (.const (.int .u64 65536)) 23, 30, []⟩,
      ⟨some 50, .none, 23, .binOp .rem 23 (.tmp 49) (.const (.int .u64 65536)) 23, 31, []⟩,
      ⟨some 51, .none, 3, .convert 23 3 (.tmp 50), 32, []⟩,
      ⟨some 52, .none, 29, .move (.tmp 0), 33, []⟩,
      ⟨some 53, .none, 0, .indexAddr 29 (.tmp 52) (.const (.int .i64 2)), 34, []⟩,
      ⟨some 54, .none, 23, .load 23 (.tmp 53), 35, []⟩,
      ⟨some 55, .none, 29, .move (.tmp 0), 36, []⟩,
      ⟨some 56, .none, 0, .indexAddr 29 (.tmp 55) (.const (.int .i64 3)), 37, []⟩,
      ⟨some 57, .none, 23, .load 23 (.tmp 56), 38, []⟩,
      ⟨some 58, .none, 29, .move (.tmp 0), 39, []⟩,
      ⟨some 59, .none, 0, .indexAddr 29 (.tmp 58) (.const (.int .i64 4)), 40, []⟩,
      ⟨some 60, .none, 23, .load 23 (.tmp 59), 41, []⟩,
      ⟨some 61, .none, 29, .move (.tmp 0), 42, []⟩,
      ⟨some 62, .none, 0, .indexAddr 29 (.tmp 61) (.const (.int .i64 5)), 43, []⟩,
      ⟨some 63, .none, 23, .load 23 (.tmp 62), 44, []⟩,
      ⟨some 64, .none, 29, .move (.tmp 0), 45, []⟩,
      ⟨some 65, .none, 0, .indexAddr 29 (.tmp 64) (.const (.int .i64 6)), 46, []⟩,
      ⟨some 66, .none, 23, .load 23 (.tmp 65), 47, []⟩,
      ⟨some 67, .none, 24, .build 24 #[(0, .tmp 57), (1, .tmp 60), (2, .tmp 63), (3, .tmp 66)], 48, []⟩,
      ⟨some 68, .none, 36, .build 36 #[(0, .tmp 21), (1, .tmp 25), (2, .tmp 29), (7, .tmp 34), (5, .tmp 39), (3, .tmp 42), (4, .tmp 46), (6, .tmp 51), (8, .tmp 54), (9, .tmp 67)], 49, []⟩,
      ⟨some 6, .none, 0, .alloc 36, 50, [35, 38, 41, 44, 47]⟩,
      ⟨none, .none, 0, .store 36 (.tmp 6) (.tmp 68), 51, []⟩])
  (.keep [0, 2, 6]
  (.seq
    (.region [⟨some 69, .none, true, 36, .load 36 (.tmp 6)⟩,
      ⟨some 70, .none, true, 29, .call { callee := .value (.func 25), args := #[.tmp 69], argTypes := #[36] }⟩,
      ⟨some 7, .none, true, 29, .assign (.tmp 70)⟩])
  (.keep [0, 2, 6, 7]
  (.seq
    (.seq
      (.region [⟨some 71, .none, true, 29, .move (.tmp 7)⟩,
        ⟨some 72, .none, true, 3, .call { callee := .builtin .len, args := #[.tmp 71], argTypes := #[29] }⟩,
        ⟨some 73, .none, true, 4, .binOp .neq 3 (.tmp 72) (.const (.int .i64 8)) 3⟩])
    (.keep [0, 2, 6, 7, 73]
    (.cond (.tmp 73)
      (.seq
        (.region [⟨some 74, .none, true, 36, .build 36 #[]⟩,
          ⟨none, .none, true, 0, .store 36 (.tmp 2) (.tmp 74)⟩,
          ⟨some 3, .none, true, 4, .assign (.const (.bool false))⟩])
      .ret)
      .skip)))
  (.seq
    (.seq
      (.region [⟨some 8, .none, true, 3, .assign (.const (.int .i64 0))⟩])
    (.keep [0, 2, 6, 7, 8]
    (.block 0
      (.loop [0, 2, 6, 7, 8] rc_reeveref11_GetThingl0))))
  (.seq
    (.region [⟨some 89, .none, true, 36, .load 36 (.tmp 6)⟩,
      ⟨none, .none, true, 0, .store 36 (.tmp 2) (.tmp 89)⟩,
      ⟨some 3, .none, true, 4, .assign (.const (.bool true))⟩])
  .ret))))))))))))
theorem t_reeveref11_GetThing : FnT Try.prog f_reeveref11_GetThing rc_reeveref11_GetThing [.cell 2 36, .tmp 3] 1 := ⟨⟨[4], Try.f19, _, Try.func19, rfl, by kernel_rfl, by kernel_rfl, by kernel_rfl, rfl, by decide⟩, by kernel_rfl⟩
/-- reeve/reeveref11.Cost -/
abbrev f_reeveref11_Cost : FuncId := 20
def rc_reeveref11_Cost : RCode :=
  (.seq
    (.region [⟨some 4, .none, true, 3, .assign (.const (.int .i64 0))⟩,
      ⟨some 5, .none, true, 4, .assign (.const (.bool false))⟩])
  (.keep [0, 1]
  (.seq
    (.seq
      (.region [⟨some 6, .none, true, 3, .move (.tmp 0)⟩])
    (.keep [1, 6]
    (.block 0
      (.seq
        (.region [⟨some 8, .none, true, 4, .binOp .eql 3 (.tmp 6) (.const (.int .i64 1)) 3⟩,
          ⟨some 7, .none, true, 4, .assign (.tmp 8)⟩])
      (.keep [1, 6, 7]
      (.cond (.tmp 7)
        (.seq
          (.region [⟨some 9, .none, true, 3, .move (.tmp 1)⟩,
            ⟨some 10, .none, true, 4, .call { callee := .value (.func 48), args := #[.tmp 9, .const (.int .i64 1), .const (.int .i64 4096)], argTypes := #[3, 3, 3] }⟩])
        (.keep [1, 10]
        (.cond (.tmp 10)
          (.seq
            (.region [⟨some 11, .none, true, 3, .move (.tmp 1)⟩,
              ⟨some 4, .none, true, 3, .assign (.tmp 11)⟩,
              ⟨some 5, .none, true, 4, .assign (.const (.bool true))⟩])
          .ret)
          .skip)))
        (.seq
          (.region [⟨some 13, .none, true, 4, .binOp .eql 3 (.tmp 6) (.const (.int .i64 2)) 3⟩,
            ⟨some 12, .none, true, 4, .assign (.tmp 13)⟩])
        (.keep [1, 6, 12]
        (.cond (.tmp 12)
          (.seq
            (.region [⟨some 14, .none, true, 3, .move (.tmp 1)⟩,
              ⟨some 15, .none, true, 4, .call { callee := .value (.func 48), args := #[.tmp 14, .const (.int .i64 1), .const (.int .i64 4)], argTypes := #[3, 3, 3] }⟩])
          (.keep [1, 15]
          (.cond (.tmp 15)
            (.seq
              (.region [⟨some 16, .none, true, 3, .move (.tmp 1)⟩,
                ⟨some 17, .none, true, 3, .call { callee := .value (.func 49), args := #[.tmp 16], argTypes := #[3] }⟩,
                ⟨some 4, .none, true, 3, .assign (.tmp 17)⟩,
                ⟨some 5, .none, true, 4, .assign (.const (.bool true))⟩])
            .ret)
            .skip)))
          (.seq
            (.seq
              (.region [⟨some 19, .none, true, 4, .binOp .eql 3 (.tmp 6) (.const (.int .i64 3)) 3⟩,
                ⟨some 18, .none, true, 4, .assign (.tmp 19)⟩])
            (.keep [6, 18]
            (.cond (.tmp 18)
              .skip
              (.region [⟨some 20, .none, true, 4, .binOp .eql 3 (.tmp 6) (.const (.int .i64 4)) 3⟩,
                ⟨some 18, .none, true, 4, .assign (.tmp 20)⟩]))))
          (.cond (.tmp 18)
            (.seq
              (.region [⟨some 4, .none, true, 3, .assign (.const (.int .i64 1))⟩,
                ⟨some 5, .none, true, 4, .assign (.const (.bool true))⟩])
            .ret)
            (.seq
              (.region [⟨some 22, .none, true, 4, .binOp .eql 3 (.tmp 6) (.const (.int .i64 5)) 3⟩,
                ⟨some 21, .none, true, 4, .assign (.tmp 22)⟩])
            (.keep [21]
            (.cond (.tmp 21)
              (.seq
                (.region [⟨some 4, .none, true, 3, .assign (.const (.int .i64 2))⟩,
                  ⟨some 5, .none, true, 4, .assign (.const (.bool true))⟩])
              .ret)
              .skip))))))))))))))
  (.seq
    (.region [⟨some 4, .none, true, 3, .assign (.const (.int .i64 0))⟩,
      ⟨some 5, .none, true, 4, .assign (.const (.bool false))⟩])
  .ret))))
theorem t_reeveref11_Cost : FnT Try.prog f_reeveref11_Cost rc_reeveref11_Cost [.tmp 4, .tmp 5] 2 := ⟨⟨[], Try.f20, _, Try.func20, rfl, by kernel_rfl, by kernel_rfl, by kernel_rfl, rfl, by decide⟩, by kernel_rfl⟩
/-- reeve/reeveref11.NewThing -/
abbrev f_reeveref11_NewThing : FuncId := 21
def rc_reeveref11_NewThing : RCode :=
  (.seq
    (.region [⟨some 6, .none, true, 0, .alloc 36⟩,
      ⟨some 7, .none, true, 4, .assign (.const (.bool false))⟩])
  (.keep [0, 1, 2, 6]
  (.seq
    (.region [⟨some 12, .none, true, 3, .move (.tmp 0)⟩,
      ⟨some 13, .none, true, 3, .move (.tmp 1)⟩,
      ⟨some 14, .none, true, 31, .call { callee := .value (.func 20), args := #[.tmp 12, .tmp 13], argTypes := #[3, 3] }⟩,
      ⟨some 11, .none, true, 31, .move (.tmp 14)⟩,
      ⟨some 15, .none, true, 3, .extract (.tmp 11) 0⟩,
      ⟨some 16, .none, true, 4, .extract (.tmp 11) 1⟩,
      ⟨some 8, .none, true, 3, .assign (.tmp 15)⟩,
      ⟨some 9, .none, true, 4, .assign (.tmp 16)⟩])
  (.keep [0, 1, 2, 6, 9]
  (.seq
    (.region [⟨some 17, .none, true, 3, .move (.tmp 0)⟩,
      ⟨some 18, .none, true, 36, .build 36 #[(0, .tmp 17)]⟩,
      ⟨some 10, .none, true, 0, .alloc 36⟩,
      ⟨none, .none, true, 0, .store 36 (.tmp 10) (.tmp 18)⟩])
  (.keep [0, 1, 2, 6, 9, 10]
  (.seq
    (.seq
      (.region [⟨some 19, .none, true, 3, .move (.tmp 0)⟩,
        ⟨some 20, .none, true, 4, .binOp .eql 3 (.tmp 19) (.const (.int .i64 1)) 3⟩])
    (.keep [0, 1, 2, 6, 9, 10, 20]
    (.cond (.tmp 20)
      (.region [⟨some 21, .none, true, 3, .move (.tmp 1)⟩,
        ⟨some 22, .none, true, 0, .fieldAddr 36 (.tmp 10) 3⟩,
        ⟨none, .none, true, 0, .store 3 (.tmp 22) (.tmp 21)⟩])
      .skip)))
  (.seq
    (.seq
      (.region [⟨some 23, .none, true, 3, .move (.tmp 0)⟩,
        ⟨some 24, .none, true, 4, .binOp .eql 3 (.tmp 23) (.const (.int .i64 2)) 3⟩])
    (.keep [1, 2, 6, 9, 10, 24]
    (.cond (.tmp 24)
      (.region [⟨some 25, .none, true, 3, .move (.tmp 1)⟩,
        ⟨some 26, .none, true, 3, .move (.tmp 2)⟩,
        ⟨some 27, .none, true, 0, .fieldAddr 36 (.tmp 10) 1⟩,
        ⟨none, .none, true, 0, .store 3 (.tmp 27) (.tmp 25)⟩,
        ⟨some 28, .none, true, 0, .fieldAddr 36 (.tmp 10) 2⟩,
        ⟨none, .none, true, 0, .store 3 (.tmp 28) (.tmp 26)⟩])
      .skip)))
  (.seq
    (.seq
      (.region [⟨some 29, .none, true, 4, .move (.tmp 9)⟩,
        ⟨some 30, .none, true, 4, .unOp .not 4 (.tmp 29)⟩,
        ⟨some 31, .none, true, 4, .move (.tmp 30)⟩,
        ⟨some 32, .some 31 false, true, 36, .load 36 (.tmp 10)⟩,
        ⟨some 33, .some 31 false, true, 4, .call { callee := .value (.func 22), args := #[.tmp 32], argTypes := #[36] }⟩,
        ⟨some 34, .some 31 false, true, 4, .unOp .not 4 (.tmp 33)⟩,
        ⟨some 35, .none, true, 4, .pick (.tmp 31) (.const (.bool true)) (.tmp 34)⟩])
    (.keep [6, 10, 35]
    (.cond (.tmp 35)
      (.seq
        (.region [⟨some 36, .none, true, 36, .build 36 #[]⟩,
          ⟨none, .none, true, 0, .store 36 (.tmp 6) (.tmp 36)⟩,
          ⟨some 7, .none, true, 4, .assign (.const (.bool false))⟩])
      .ret)
      .skip)))
  (.seq
    (.region [⟨some 37, .none, true, 36, .load 36 (.tmp 10)⟩,
      ⟨none, .none, true, 0, .store 36 (.tmp 6) (.tmp 37)⟩,
      ⟨some 7, .none, true, 4, .assign (.const (.bool true))⟩])
  .ret))))))))))
theorem t_reeveref11_NewThing : FnT Try.prog f_reeveref11_NewThing rc_reeveref11_NewThing [.cell 6 36, .tmp 7] 3 := ⟨⟨[], Try.f21, _, Try.func21, rfl, by kernel_rfl, by kernel_rfl, by kernel_rfl, rfl, by decide⟩, by kernel_rfl⟩
/-- reeve/reeveref11.GoodThing -/
abbrev f_reeveref11_GoodThing : FuncId := 22
def rc_reeveref11_GoodThing : RCode :=
  (.seq
    (.region [⟨some 1, .none, true, 0, .box 36 (.tmp 0)⟩,
      ⟨some 2, .none, true, 4, .assign (.const (.bool false))⟩])
  (.keep [1]
  (.seq
    (.region [⟨some 4, .none, true, 0, .fieldAddr 36 (.tmp 1) 0⟩,
      ⟨some 5, .none, true, 3, .load 3 (.tmp 4)⟩,
      ⟨some 6, .none, true, 36, .build 36 #[(0, .tmp 5)]⟩,
      ⟨some 3, .none, true, 0, .alloc 36⟩,
      ⟨none, .none, true, 0, .store 36 (.tmp 3) (.tmp 6)⟩])
  (.keep [1, 3]
  (.seq
    (.seq
      (.region [⟨some 7, .none, true, 0, .fieldAddr 36 (.tmp 1) 0⟩,
        ⟨some 8, .none, true, 3, .load 3 (.tmp 7)⟩])
    (.keep [1, 3, 8]
    (.block 0
      (.seq
        (.region [⟨some 10, .none, true, 4, .binOp .eql 3 (.tmp 8) (.const (.int .i64 0)) 3⟩,
          ⟨some 9, .none, true, 4, .assign (.tmp 10)⟩])
      (.keep [1, 3, 8, 9]
      (.cond (.tmp 9)
        .skip
        (.seq
          (.region [⟨some 12, .none, true, 4, .binOp .eql 3 (.tmp 8) (.const (.int .i64 1)) 3⟩,
            ⟨some 11, .none, true, 4, .assign (.tmp 12)⟩])
        (.keep [1, 3, 8, 11]
        (.cond (.tmp 11)
          (.seq
            (.regionD [⟨some 13, .none, 0, .fieldAddr 36 (.tmp 1) 3, 0, []⟩,
              ⟨some 14, .none, 3, .load 3 (.tmp 13), 1, []⟩,
              ⟨some 15, .none, 0, .fieldAddr 36 (.tmp 1) 4, 2, []⟩,
              ⟨some 16, .none, 3, .load 3 (.tmp 15), 3, []⟩,
              ⟨some 17, .none, 0, .fieldAddr 36 (.tmp 3) 3, 4, []⟩,
              ⟨none, .none, 0, .store 3 (.tmp 17) (.tmp 14), 5, [3]⟩,
              ⟨some 18, .none, 0, .fieldAddr 36 (.tmp 3) 4, 6, []⟩,
              ⟨none, .none, 0, .store 3 (.tmp 18) (.tmp 16), 7, []⟩])
          (.keep [1, 3]
          (.seq
            (.region [⟨some 19, .none, true, 0, .fieldAddr 36 (.tmp 1) 3⟩,
              ⟨some 20, .none, true, 3, .load 3 (.tmp 19)⟩,
              ⟨some 21, .none, true, 4, .call { callee := .value (.func 48), args := #[.tmp 20, .const (.int .i64 1), .const (.int .i64 4096)], argTypes := #[3, 3, 3] }⟩,
              ⟨some 22, .none, true, 4, .unOp .not 4 (.tmp 21)⟩,
              ⟨some 23, .none, true, 4, .move (.tmp 22)⟩,
              ⟨some 24, .some 23 false, true, 0, .fieldAddr 36 (.tmp 1) 4⟩,
              ⟨some 25, .some 23 false, true, 3, .load 3 (.tmp 24)⟩,
              ⟨some 26, .some 23 false, true, 0, .fieldAddr 36 (.tmp 1) 3⟩,
              ⟨some 27, .some 23 false, true, 3, .load 3 (.tmp 26)⟩,
              ⟨some 28, .some 23 false, true, 4, .call { callee := .value (.func 48), args := #[.tmp 25, .const (.int .i64 0), .tmp 27], argTypes := #[3, 3, 3] }⟩,
              ⟨some 29, .some 23 false, true, 4, .unOp .not 4 (.tmp 28)⟩,
              ⟨some 30, .none, true, 4, .pick (.tmp 23) (.const (.bool true)) (.tmp 29)⟩])
          (.keep [1, 3, 30]
          (.cond (.tmp 30)
            (.seq
              (.region [⟨some 2, .none, true, 4, .assign (.const (.bool false))⟩])
            .ret)
            .skip)))))
          (.seq
            (.region [⟨some 32, .none, true, 4, .binOp .eql 3 (.tmp 8) (.const (.int .i64 2)) 3⟩,
              ⟨some 31, .none, true, 4, .assign (.tmp 32)⟩])
          (.keep [1, 3, 8, 31]
          (.cond (.tmp 31)
            (.seq
              (.regionD [⟨some 33, .none, 0, .fieldAddr 36 (.tmp 1) 1, 0, []⟩,
                ⟨some 34, .none, 3, .load 3 (.tmp 33), 1, []⟩,
                ⟨some 35, .none, 0, .fieldAddr 36 (.tmp 1) 2, 2, []⟩,
                ⟨some 36, .none, 3, .load 3 (.tmp 35), 3, []⟩,
                ⟨some 37, .none, 0, .fieldAddr 36 (.tmp 3) 1, 4, []⟩,
                ⟨none, .none, 0, .store 3 (.tmp 37) (.tmp 34), 5, [3]⟩,
                ⟨some 38, .none, 0, .fieldAddr 36 (.tmp 3) 2, 6, []⟩,
                ⟨none, .none, 0, .store 3 (.tmp 38) (.tmp 36), 7, []⟩])
            (.keep [1, 3]
            (.seq
              (.region [⟨some 39, .none, true, 0, .fieldAddr 36 (.tmp 1) 1⟩,
                ⟨some 40, .none, true, 3, .load 3 (.tmp 39)⟩,
                ⟨some 41, .none, true, 4, .call { callee := .value (.func 48), args := #[.tmp 40, .const (.int .i64 1), .const (.int .i64 4)], argTypes := #[3, 3, 3] }⟩,
                ⟨some 42, .none, true, 4, .unOp .not 4 (.tmp 41)⟩,
                ⟨some 43, .none, true, 4, .move (.tmp 42)⟩,
                ⟨some 44, .some 43 false, false, 0, .fieldAddr 36 (.tmp 1) 2⟩,
                ⟨some 45, .some 43 false, false, 3, .load 3 (.tmp 44)⟩,
                ⟨some 46, .some 43 false, false, 0, .fieldAddr 36 (.tmp 1) 1⟩,
                ⟨some 47, .some 43 false, false, 3, .load 3 (.tmp 46)⟩,
                ⟨some 48, .some 43 false, false, 3, .call { callee := .value (.func 49), args := #[.tmp 47], argTypes := #[3] }⟩,
                ⟨some 49, .some 43 false, false, 3, .binOp .sub 3 (.const (.int .i64 96)) (.tmp 48) 3⟩,
                ⟨some 50, .some 43 false, true, 4, .call { callee := .value (.func 48), args := #[.tmp 45, .const (.int .i64 0), .tmp 49], argTypes := #[3, 3, 3] }⟩,
                ⟨some 51, .some 43 false, true, 4, .unOp .not 4 (.tmp 50)⟩,
                ⟨some 52, .none, true, 4, .pick (.tmp 43) (.const (.bool true)) (.tmp 51)⟩])
            (.keep [1, 3, 52]
            (.cond (.tmp 52)
              (.seq
                (.region [⟨some 2, .none, true, 4, .assign (.const (.bool false))⟩])
              .ret)
              .skip)))))
            (.seq
              (.region [⟨some 54, .none, true, 4, .binOp .eql 3 (.tmp 8) (.const (.int .i64 3)) 3⟩,
                ⟨some 53, .none, true, 4, .assign (.tmp 54)⟩])
            (.keep [1, 3, 8, 53]
            (.cond (.tmp 53)
              (.seq
                (.region [⟨some 55, .none, true, 0, .fieldAddr 36 (.tmp 1) 7⟩,
                  ⟨some 56, .none, true, 4, .load 4 (.tmp 55)⟩,
                  ⟨some 57, .none, true, 0, .fieldAddr 36 (.tmp 3) 7⟩,
                  ⟨none, .none, true, 0, .store 4 (.tmp 57) (.tmp 56)⟩])
              (.keep [1, 3]
              (.seq
                (.seq
                  (.region [⟨some 58, .none, true, 0, .fieldAddr 36 (.tmp 1) 7⟩,
                    ⟨some 59, .none, true, 4, .load 4 (.tmp 58)⟩])
                (.keep [1, 3, 59]
                (.cond (.tmp 59)
                  (.regionD [⟨some 60, .none, 0, .fieldAddr 36 (.tmp 1) 8, 0, []⟩,
                    ⟨some 61, .none, 23, .load 23 (.tmp 60), 1, []⟩,
                    ⟨some 62, .none, 0, .fieldAddr 36 (.tmp 1) 6, 2, []⟩,
                    ⟨some 63, .none, 3, .load 3 (.tmp 62), 3, []⟩,
                    ⟨some 64, .none, 0, .fieldAddr 36 (.tmp 1) 5, 4, []⟩,
                    ⟨some 65, .none, 3, .load 3 (.tmp 64), 5, []⟩,
                    ⟨some 66, .none, 0, .fieldAddr 36 (.tmp 3) 8, 6, []⟩,
                    ⟨none, .none, 0, .store 23 (.tmp 66) (.tmp 61), 7, [3, 5]⟩,
                    ⟨some 67, .none, 0, .fieldAddr 36 (.tmp 3) 6, 8, []⟩,
                    ⟨none, .none, 0, .store 3 (.tmp 67) (.tmp 63), 9, [5]⟩,
                    ⟨some 68, .none, 0, .fieldAddr 36 (.tmp 3) 5, 10, []⟩,
                    ⟨none, .none, 0, .store 3 (.tmp 68) (.tmp 65), 11, []⟩])
                  .skip)))
              (.seq
                (.region [⟨some 69, .none, true, 0, .fieldAddr 36 (.tmp 1) 6⟩,
                  ⟨some 70, .none, true, 3, .load 3 (.tmp 69)⟩,
                  ⟨some 71, .none, true, 4, .call { callee := .value (.func 48), args := #[.tmp 70, .const (.int .i64 0), .const (.int .i64 65535)], argTypes := #[3, 3, 3] }⟩,
                  ⟨some 72, .none, true, 4, .unOp .not 4 (.tmp 71)⟩,
                  ⟨some 73, .none, true, 4, .move (.tmp 72)⟩,
                  ⟨some 74, .some 73 false, true, 0, .fieldAddr 36 (.tmp 1) 5⟩,
                  ⟨some 75, .some 73 false, true, 3, .load 3 (.tmp 74)⟩,
                  ⟨some 76, .some 73 false, true, 4, .call { callee := .value (.func 48), args := #[.tmp 75, .const (.int .i64 0), .const (.int .i64 96)], argTypes := #[3, 3, 3] }⟩,
                  ⟨some 77, .some 73 false, true, 4, .unOp .not 4 (.tmp 76)⟩,
                  ⟨some 78, .none, true, 4, .pick (.tmp 73) (.const (.bool true)) (.tmp 77)⟩])
              (.keep [1, 3, 78]
              (.cond (.tmp 78)
                (.seq
                  (.region [⟨some 2, .none, true, 4, .assign (.const (.bool false))⟩])
                .ret)
                .skip))))))
              (.seq
                (.region [⟨some 80, .none, true, 4, .binOp .eql 3 (.tmp 8) (.const (.int .i64 4)) 3⟩,
                  ⟨some 79, .none, true, 4, .assign (.tmp 80)⟩])
              (.keep [1, 3, 8, 79]
              (.cond (.tmp 79)
                (.region [⟨some 81, .none, true, 0, .fieldAddr 36 (.tmp 1) 8⟩,
                  ⟨some 82, .none, true, 23, .load 23 (.tmp 81)⟩,
                  ⟨some 83, .none, true, 0, .fieldAddr 36 (.tmp 3) 8⟩,
                  ⟨none, .none, true, 0, .store 23 (.tmp 83) (.tmp 82)⟩])
                (.seq
                  (.region [⟨some 85, .none, true, 4, .binOp .eql 3 (.tmp 8) (.const (.int .i64 5)) 3⟩,
                    ⟨some 84, .none, true, 4, .assign (.tmp 85)⟩])
                (.keep [1, 3, 84]
                (.cond (.tmp 84)
                  (.region [⟨some 86, .none, true, 0, .fieldAddr 36 (.tmp 1) 9⟩,
                    ⟨some 87, .none, true, 24, .load 24 (.tmp 86)⟩,
                    ⟨some 88, .none, true, 0, .fieldAddr 36 (.tmp 3) 9⟩,
                    ⟨none, .none, true, 0, .store 24 (.tmp 88) (.tmp 87)⟩])
                  (.seq
                    (.region [⟨some 2, .none, true, 4, .assign (.const (.bool false))⟩])
                  .ret))))))))))))))))))))))
  (.seq
    (.region [⟨some 89, .none, true, 36, .load 36 (.tmp 3)⟩,
      ⟨some 90, .none, true, 36, .load 36 (.tmp 1)⟩,
      ⟨some 91, .none, true, 4, .binOp .eql 36 (.tmp 89) (.tmp 90) 36⟩,
      ⟨some 2, .none, true, 4, .assign (.tmp 91)⟩])
  .ret))))))
theorem t_reeveref11_GoodThing : FnT Try.prog f_reeveref11_GoodThing rc_reeveref11_GoodThing [.tmp 2] 1 := ⟨⟨[6, 10, 16], Try.f22, _, Try.func22, rfl, by kernel_rfl, by kernel_rfl, by kernel_rfl, rfl, by decide⟩, by kernel_rfl⟩
/-- reeve/reevelaw11.thingOf -/
abbrev f_reevelaw11_thingOf : FuncId := 23
def rc_reevelaw11_thingOf : RCode :=
  (.seq
    (.region [⟨some 1, .none, true, 0, .box 26 (.tmp 0)⟩,
      ⟨some 2, .none, true, 0, .alloc 36⟩])
  (.keep [1, 2]
  (.seq
    (.region [⟨some 3, .none, true, 0, .fieldAddr 26 (.tmp 1) 0⟩,
      ⟨some 4, .none, true, 3, .load 3 (.tmp 3)⟩,
      ⟨some 5, .none, true, 0, .fieldAddr 26 (.tmp 1) 1⟩,
      ⟨some 6, .none, true, 3, .load 3 (.tmp 5)⟩,
      ⟨some 7, .none, true, 0, .fieldAddr 26 (.tmp 1) 2⟩,
      ⟨some 8, .none, true, 3, .load 3 (.tmp 7)⟩,
      ⟨some 9, .none, true, 0, .fieldAddr 26 (.tmp 1) 3⟩,
      ⟨some 10, .none, true, 3, .load 3 (.tmp 9)⟩,
      ⟨some 11, .none, true, 0, .fieldAddr 26 (.tmp 1) 4⟩,
      ⟨some 12, .none, true, 3, .load 3 (.tmp 11)⟩,
      ⟨some 13, .none, true, 0, .fieldAddr 26 (.tmp 1) 5⟩,
      ⟨some 14, .none, true, 3, .load 3 (.tmp 13)⟩,
      ⟨some 15, .none, true, 0, .fieldAddr 26 (.tmp 1) 6⟩,
      ⟨some 16, .none, true, 3, .load 3 (.tmp 15)⟩,
      ⟨some 17, .none, true, 0, .fieldAddr 26 (.tmp 1) 7⟩,
      ⟨some 18, .none, true, 4, .load 4 (.tmp 17)⟩,
      ⟨some 19, .none, true, 0, .fieldAddr 26 (.tmp 1) 8⟩,
      ⟨some 20, .none, true, 23, .load 23 (.tmp 19)⟩,
      ⟨some 21, .none, true, 0, .fieldAddr 26 (.tmp 1) 9⟩,
      ⟨some 22, .none, true, 24, .load 24 (.tmp 21)⟩,
      ⟨some 23, .none, true, 36, .build 36 #[(0, .tmp 4), (1, .tmp 6), (2, .tmp 8), (3, .tmp 10), (4, .tmp 12), (5, .tmp 14), (6, .tmp 16), (7, .tmp 18), (8, .tmp 20), (9, .tmp 22)]⟩,
      ⟨none, .none, true, 0, .store 36 (.tmp 2) (.tmp 23)⟩])
  .ret)))
theorem t_reevelaw11_thingOf : FnT Try.prog f_reevelaw11_thingOf rc_reevelaw11_thingOf [.cell 2 36] 1 := ⟨⟨[], Try.f23, _, Try.func23, rfl, by kernel_rfl, by kernel_rfl, by kernel_rfl, rfl, by decide⟩, by kernel_rfl⟩
/-- reeve/reevelaw11.words -/
abbrev f_reevelaw11_words : FuncId := 24
def rc_reevelaw11_wordsl0 : RCode :=
  (.seq
    (.seq
      (.region [⟨some 11, .none, true, 3, .move (.tmp 5)⟩,
        ⟨some 12, .none, true, 29, .move (.tmp 0)⟩,
        ⟨some 13, .none, true, 3, .call { callee := .builtin .len, args := #[.tmp 12], argTypes := #[29] }⟩,
        ⟨some 14, .none, true, 4, .binOp .lss 3 (.tmp 11) (.tmp 13) 3⟩])
    (.keep [0, 1, 5, 14]
    (.cond (.tmp 14)
      .skip
      (.exit 0))))
  (.seq
    (.block 1
      (.seq
        (.region [⟨some 17, .none, false, 29, .move (.tmp 0)⟩,
          ⟨some 18, .none, false, 3, .move (.tmp 5)⟩,
          ⟨some 19, .none, false, 0, .indexAddr 29 (.tmp 17) (.tmp 18)⟩,
          ⟨some 20, .none, false, 23, .load 23 (.tmp 19)⟩,
          ⟨some 21, .none, false, 29, .move (.tmp 1)⟩,
          ⟨some 22, .none, false, 3, .move (.tmp 5)⟩,
          ⟨some 23, .none, false, 0, .indexAddr 29 (.tmp 21) (.tmp 22)⟩,
          ⟨some 24, .none, false, 23, .load 23 (.tmp 23)⟩,
          ⟨some 25, .none, true, 4, .binOp .neq 23 (.tmp 20) (.tmp 24) 23⟩])
      (.keep [0, 1, 5, 25]
      (.cond (.tmp 25)
        (.seq
          (.region [⟨some 4, .none, true, 4, .assign (.const (.bool false))⟩])
        .ret)
        .skip))))
  (.keep [0, 1, 5]
  (.region [⟨some 15, .none, true, 3, .move (.tmp 5)⟩,
    ⟨some 16, .none, true, 3, .binOp .add 3 (.tmp 15) (.const (.int .i64 1)) 3⟩,
    ⟨some 5, .none, true, 3, .assign (.tmp 16)⟩]))))
def rc_reevelaw11_words : RCode :=
  (.seq
    (.region [⟨some 4, .none, true, 4, .assign (.const (.bool false))⟩])
  (.keep [0, 1]
  (.seq
    (.seq
      (.region [⟨some 6, .none, true, 29, .move (.tmp 0)⟩,
        ⟨some 7, .none, true, 3, .call { callee := .builtin .len, args := #[.tmp 6], argTypes := #[29] }⟩,
        ⟨some 8, .none, true, 29, .move (.tmp 1)⟩,
        ⟨some 9, .none, true, 3, .call { callee := .builtin .len, args := #[.tmp 8], argTypes := #[29] }⟩,
        ⟨some 10, .none, true, 4, .binOp .neq 3 (.tmp 7) (.tmp 9) 3⟩])
    (.keep [0, 1, 10]
    (.cond (.tmp 10)
      (.seq
        (.region [⟨some 4, .none, true, 4, .assign (.const (.bool false))⟩])
      .ret)
      .skip)))
  (.seq
    (.seq
      (.region [⟨some 5, .none, true, 3, .assign (.const (.int .i64 0))⟩])
    (.keep [0, 1, 5]
    (.block 0
      (.loop [0, 1, 5] rc_reevelaw11_wordsl0))))
  (.seq
    (.region [⟨some 4, .none, true, 4, .assign (.const (.bool true))⟩])
  .ret)))))
theorem t_reevelaw11_words : FnT Try.prog f_reevelaw11_words rc_reevelaw11_words [.tmp 4] 2 := ⟨⟨[], Try.f24, _, Try.func24, rfl, by kernel_rfl, by kernel_rfl, by kernel_rfl, rfl, by decide⟩, by kernel_rfl⟩
/-- reeve/reeveref11.PutThing -/
abbrev f_reeveref11_PutThing : FuncId := 25
def rc_reeveref11_PutThing : RCode :=
  (.seq
    (.region [⟨some 1, .none, true, 0, .box 36 (.tmp 0)⟩,
      ⟨some 2, .none, true, 29, .assign (.const (.slice none 0 0))⟩])
  (.keep [1]
  (.seq
    (.seq
      (.region [⟨some 5, .none, true, 36, .load 36 (.tmp 1)⟩,
        ⟨some 6, .none, true, 4, .call { callee := .value (.func 22), args := #[.tmp 5], argTypes := #[36] }⟩,
        ⟨some 7, .none, true, 4, .unOp .not 4 (.tmp 6)⟩])
    (.keep [1, 7]
    (.cond (.tmp 7)
      (.seq
        (.region [⟨some 2, .none, true, 29, .assign (.const (.slice none 0 0))⟩])
      .ret)
      .skip)))
  (.seq
    (.region [⟨some 3, .none, true, 3, .assign (.const (.int .i64 0))⟩])
  (.keep [1, 3]
  (.seq
    (.seq
      (.region [⟨some 8, .none, true, 0, .fieldAddr 36 (.tmp 1) 7⟩,
        ⟨some 9, .none, true, 4, .load 4 (.tmp 8)⟩])
    (.keep [1, 3, 9]
    (.cond (.tmp 9)
      (.region [⟨some 3, .none, true, 3, .assign (.const (.int .i64 1))⟩])
      .skip)))
  (.seq
    (.region [⟨some 10, .none, true, 0, .fieldAddr 36 (.tmp 1) 0⟩,
      ⟨some 11, .none, true, 3, .load 3 (.tmp 10)⟩,
      ⟨some 12, .none, true, 0, .fieldAddr 36 (.tmp 1) 1⟩,
      ⟨some 13, .none, true, 3, .load 3 (.tmp 12)⟩,
      ⟨some 14, .none, true, 3, .binOp .mul 3 (.tmp 13) (.const (.int .i64 256)) 3⟩,
      ⟨some 15, .none, true, 3, .binOp .add 3 (.tmp 11) (.tmp 14) 3⟩,
      ⟨some 16, .none, true, 0, .fieldAddr 36 (.tmp 1) 2⟩,
      ⟨some 17, .none, true, 3, .load 3 (.tmp 16)⟩,
      ⟨some 18, .none, true, 3, .binOp .mul 3 (.tmp 17) (.const (.int .i64 65536)) 3⟩,
      ⟨some 19, .none, true, 3, .binOp .add 3 (.tmp 15) (.tmp 18) 3⟩,
      ⟨some 20, .none, true, 3, .move (.tmp 3)⟩,
      ⟨some 21, .none, true, 3, .binOp .mul 3 (.tmp 20) (.const (.int .i64 65536)) 3⟩,
      ⟨some 22, .none, true, 3, .binOp .mul 3 (.tmp 21) (.const (.int .i64 256)) 3⟩,
      ⟨some 23, .none, true, 3, .binOp .add 3 (.tmp 19) (.tmp 22) 3⟩,
      ⟨some 24, .none, true, 0, .fieldAddr 36 (.tmp 1) 5⟩,
      ⟨some 25, .none, true, 3, .load 3 (.tmp 24)⟩,
      ⟨some 26, .none, true, 3, .binOp .mul 3 (.tmp 25) (.const (.int .i64 65536)) 3⟩,
      ⟨some 27, .none, true, 3, .binOp .mul 3 (.tmp 26) (.const (.int .i64 65536)) 3⟩,
      ⟨some 28, .none, true, 3, .binOp .add 3 (.tmp 23) (.tmp 27) 3⟩,
      ⟨some 29, .none, true, 23, .convert 3 23 (.tmp 28)⟩,
      ⟨some 30, .none, true, 0, .fieldAddr 36 (.tmp 1) 3⟩,
      ⟨some 31, .none, true, 3, .load 3 (.tmp 30)⟩,
      ⟨some 32, .none, true, 0, .fieldAddr 36 (.tmp 1) 4⟩,
      ⟨some 33, .none, true, 3, .load 3 (.tmp 32)⟩,
      ⟨some 34, .none, true, 3, .binOp .mul 3 (.tmp 33) (.const (.int .i64 65536)) 3⟩,
      ⟨some 35, .none, true, 3, .binOp .add 3 (.tmp 31) (.tmp 34) 3⟩,
      ⟨some 36, .none, true, 0, .fieldAddr 36 (.tmp 1) 6⟩,
      ⟨some 37, .none, true, 3, .load 3 (.tmp 36)⟩,
      ⟨some 38, .none, true, 3, .binOp .mul 3 (.tmp 37) (.const (.int .i64 65536)) 3⟩,
      ⟨some 39, .none, true, 3, .binOp .mul 3 (.tmp 38) (.const (.int .i64 65536)) 3⟩,
      ⟨some 40, .none, true, 3, .binOp .add 3 (.tmp 35) (.tmp 39) 3⟩,
      ⟨some 41, .none, true, 23, .convert 3 23 (.tmp 40)⟩,
      ⟨some 42, .none, true, 0, .fieldAddr 36 (.tmp 1) 8⟩,
      ⟨some 43, .none, true, 23, .load 23 (.tmp 42)⟩,
      ⟨some 44, .none, true, 0, .fieldAddr 36 (.tmp 1) 9⟩,
      ⟨some 45, .none, true, 0, .indexAddr 24 (.tmp 44) (.const (.int .i64 0))⟩,
      ⟨some 46, .none, true, 23, .load 23 (.tmp 45)⟩,
      ⟨some 47, .none, true, 0, .fieldAddr 36 (.tmp 1) 9⟩,
      ⟨some 48, .none, true, 0, .indexAddr 24 (.tmp 47) (.const (.int .i64 1))⟩,
      ⟨some 49, .none, true, 23, .load 23 (.tmp 48)⟩,
      ⟨some 50, .none, true, 0, .fieldAddr 36 (.tmp 1) 9⟩,
      ⟨some 51, .none, true, 0, .indexAddr 24 (.tmp 50) (.const (.int .i64 2))⟩,
      ⟨some 52, .none, true, 23, .load 23 (.tmp 51)⟩,
      ⟨some 53, .none, true, 0, .fieldAddr 36 (.tmp 1) 9⟩,
      ⟨some 54, .none, true, 0, .indexAddr 24 (.tmp 53) (.const (.int .i64 3))⟩,
      ⟨some 55, .none, true, 23, .load 23 (.tmp 54)⟩,
      ⟨some 56, .none, true, 29, .buildSlice 29 8 #[(0, .tmp 29), (1, .tmp 41), (2, .tmp 43), (3, .tmp 46), (4, .tmp 49), (5, .tmp 52), (6, .tmp 55), (7, .const (.int .u64 0))]⟩,
      ⟨some 4, .none, true, 29, .assign (.tmp 56)⟩])
  (.keep [4]
  (.seq
    (.region [⟨some 57, .none, true, 29, .move (.tmp 4)⟩,
      ⟨some 2, .none, true, 29, .assign (.tmp 57)⟩])
  .ret)))))))))
theorem t_reeveref11_PutThing : FnT Try.prog f_reeveref11_PutThing rc_reeveref11_PutThing [.tmp 2] 1 := ⟨⟨[], Try.f25, _, Try.func25, rfl, by kernel_rfl, by kernel_rfl, by kernel_rfl, rfl, by decide⟩, by kernel_rfl⟩
/-- reeve/thing.own -/
abbrev f_thing_own : FuncId := 41
def rc_thing_own : RCode :=
  (.seq
    (.region [⟨some 1, .none, true, 0, .box 26 (.tmp 0)⟩,
      ⟨some 2, .none, true, 0, .alloc 26⟩])
  (.keep [1, 2]
  (.seq
    (.seq
      (.region [⟨some 3, .none, true, 0, .fieldAddr 26 (.tmp 1) 0⟩,
        ⟨some 4, .none, true, 3, .load 3 (.tmp 3)⟩])
    (.keep [1, 2, 4]
    (.block 0
      (.seq
        (.region [⟨some 6, .none, true, 4, .binOp .eql 3 (.tmp 4) (.const (.int .i64 1)) 3⟩,
          ⟨some 5, .none, true, 4, .assign (.tmp 6)⟩])
      (.keep [1, 2, 4, 5]
      (.cond (.tmp 5)
        (.seq
          (.region [⟨some 7, .none, true, 0, .fieldAddr 26 (.tmp 1) 0⟩,
            ⟨some 8, .none, true, 3, .load 3 (.tmp 7)⟩,
            ⟨some 9, .none, true, 0, .fieldAddr 26 (.tmp 1) 3⟩,
            ⟨some 10, .none, true, 3, .load 3 (.tmp 9)⟩,
            ⟨some 11, .none, true, 0, .fieldAddr 26 (.tmp 1) 4⟩,
            ⟨some 12, .none, true, 3, .load 3 (.tmp 11)⟩,
            ⟨some 13, .none, true, 26, .build 26 #[(0, .tmp 8), (3, .tmp 10), (4, .tmp 12)]⟩,
            ⟨none, .none, true, 0, .store 26 (.tmp 2) (.tmp 13)⟩])
        .ret)
        (.seq
          (.region [⟨some 15, .none, true, 4, .binOp .eql 3 (.tmp 4) (.const (.int .i64 2)) 3⟩,
            ⟨some 14, .none, true, 4, .assign (.tmp 15)⟩])
        (.keep [1, 2, 4, 14]
        (.cond (.tmp 14)
          (.seq
            (.region [⟨some 16, .none, true, 0, .fieldAddr 26 (.tmp 1) 0⟩,
              ⟨some 17, .none, true, 3, .load 3 (.tmp 16)⟩,
              ⟨some 18, .none, true, 0, .fieldAddr 26 (.tmp 1) 1⟩,
              ⟨some 19, .none, true, 3, .load 3 (.tmp 18)⟩,
              ⟨some 20, .none, true, 0, .fieldAddr 26 (.tmp 1) 2⟩,
              ⟨some 21, .none, true, 3, .load 3 (.tmp 20)⟩,
              ⟨some 22, .none, true, 26, .build 26 #[(0, .tmp 17), (1, .tmp 19), (2, .tmp 21)]⟩,
              ⟨none, .none, true, 0, .store 26 (.tmp 2) (.tmp 22)⟩])
          .ret)
          (.seq
            (.region [⟨some 24, .none, true, 4, .binOp .eql 3 (.tmp 4) (.const (.int .i64 3)) 3⟩,
              ⟨some 23, .none, true, 4, .assign (.tmp 24)⟩])
          (.keep [1, 2, 4, 23]
          (.cond (.tmp 23)
            (.seq
              (.seq
                (.region [⟨some 25, .none, true, 0, .fieldAddr 26 (.tmp 1) 7⟩,
                  ⟨some 26, .none, true, 4, .load 4 (.tmp 25)⟩,
                  ⟨some 27, .none, true, 4, .unOp .not 4 (.tmp 26)⟩])
              (.keep [1, 2, 27]
              (.cond (.tmp 27)
                (.seq
                  (.region [⟨some 28, .none, true, 0, .fieldAddr 26 (.tmp 1) 0⟩,
                    ⟨some 29, .none, true, 3, .load 3 (.tmp 28)⟩,
                    ⟨some 30, .none, true, 26, .build 26 #[(0, .tmp 29)]⟩,
                    ⟨none, .none, true, 0, .store 26 (.tmp 2) (.tmp 30)⟩])
                .ret)
                .skip)))
            (.seq
              (.region [⟨some 31, .none, true, 0, .fieldAddr 26 (.tmp 1) 0⟩,
                ⟨some 32, .none, true, 3, .load 3 (.tmp 31)⟩,
                ⟨some 33, .none, true, 0, .fieldAddr 26 (.tmp 1) 8⟩,
                ⟨some 34, .none, true, 23, .load 23 (.tmp 33)⟩,
                ⟨some 35, .none, true, 0, .fieldAddr 26 (.tmp 1) 6⟩,
                ⟨some 36, .none, true, 3, .load 3 (.tmp 35)⟩,
                ⟨some 37, .none, true, 0, .fieldAddr 26 (.tmp 1) 5⟩,
                ⟨some 38, .none, true, 3, .load 3 (.tmp 37)⟩,
                ⟨some 39, .none, true, 26, .build 26 #[(0, .tmp 32), (7, .const (.bool true)), (8, .tmp 34), (6, .tmp 36), (5, .tmp 38)]⟩,
                ⟨none, .none, true, 0, .store 26 (.tmp 2) (.tmp 39)⟩])
            .ret))
            (.seq
              (.region [⟨some 41, .none, true, 4, .binOp .eql 3 (.tmp 4) (.const (.int .i64 4)) 3⟩,
                ⟨some 40, .none, true, 4, .assign (.tmp 41)⟩])
            (.keep [1, 2, 4, 40]
            (.cond (.tmp 40)
              (.seq
                (.region [⟨some 42, .none, true, 0, .fieldAddr 26 (.tmp 1) 0⟩,
                  ⟨some 43, .none, true, 3, .load 3 (.tmp 42)⟩,
                  ⟨some 44, .none, true, 0, .fieldAddr 26 (.tmp 1) 8⟩,
                  ⟨some 45, .none, true, 23, .load 23 (.tmp 44)⟩,
                  ⟨some 46, .none, true, 26, .build 26 #[(0, .tmp 43), (8, .tmp 45)]⟩,
                  ⟨none, .none, true, 0, .store 26 (.tmp 2) (.tmp 46)⟩])
              .ret)
              (.seq
                (.region [⟨some 48, .none, true, 4, .binOp .eql 3 (.tmp 4) (.const (.int .i64 5)) 3⟩,
                  ⟨some 47, .none, true, 4, .assign (.tmp 48)⟩])
              (.keep [1, 2, 47]
              (.cond (.tmp 47)
                (.seq
                  (.region [⟨some 49, .none, true, 0, .fieldAddr 26 (.tmp 1) 0⟩,
                    ⟨some 50, .none, true, 3, .load 3 (.tmp 49)⟩,
                    ⟨some 51, .none, true, 0, .fieldAddr 26 (.tmp 1) 9⟩,
                    ⟨some 52, .none, true, 24, .load 24 (.tmp 51)⟩,
                    ⟨some 53, .none, true, 26, .build 26 #[(0, .tmp 50), (9, .tmp 52)]⟩,
                    ⟨none, .none, true, 0, .store 26 (.tmp 2) (.tmp 53)⟩])
                .ret)
                .skip))))))))))))))))))
  (.seq
    (.region [⟨some 54, .none, true, 26, .build 26 #[]⟩,
      ⟨none, .none, true, 0, .store 26 (.tmp 2) (.tmp 54)⟩])
  .ret))))
theorem t_thing_own : FnT Try.prog f_thing_own rc_thing_own [.cell 2 26] 1 := ⟨⟨[], Try.f41, _, Try.func41, rfl, by kernel_rfl, by kernel_rfl, by kernel_rfl, rfl, by decide⟩, by kernel_rfl⟩
/-- reeve/thing.in -/
abbrev f_thing_in : FuncId := 42
def rc_thing_in : RCode :=
  (.seq
    (.region [⟨some 6, .none, true, 4, .assign (.const (.bool false))⟩])
  (.keep [0, 1, 2]
  (.seq
    (.region [⟨some 7, .none, true, 3, .move (.tmp 0)⟩,
      ⟨some 8, .none, true, 3, .move (.tmp 1)⟩,
      ⟨some 9, .none, true, 4, .binOp .geq 3 (.tmp 7) (.tmp 8) 3⟩,
      ⟨some 10, .none, true, 4, .move (.tmp 9)⟩,
      ⟨some 11, .some 10 true, true, 3, .move (.tmp 0)⟩,
      ⟨some 12, .some 10 true, true, 3, .move (.tmp 2)⟩,
      ⟨some 13, .some 10 true, true, 4, .binOp .leq 3 (.tmp 11) (.tmp 12) 3⟩,
      ⟨some 14, .none, true, 4, .pick (.tmp 10) (.tmp 13) (.const (.bool false))⟩,
      ⟨some 6, .none, true, 4, .assign (.tmp 14)⟩])
  .ret)))
theorem t_thing_in : FnT Try.prog f_thing_in rc_thing_in [.tmp 6] 3 := ⟨⟨[], Try.f42, _, Try.func42, rfl, by kernel_rfl, by kernel_rfl, by kernel_rfl, rfl, by decide⟩, by kernel_rfl⟩
/-- reeve/tag.Put -/
abbrev f_tag_Put : FuncId := 43
def rc_tag_Putl0 : RCode :=
  (.seq
    (.region [⟨some 22, .none, true, 0, .binOp .lss 3 (.tmp 21) (.tmp 20) 3⟩])
  (.keep [1, 6, 19, 20, 21, 22]
  (.seq
    (.cond (.tmp 22)
      .skip
      (.exit 0))
  (.keep [1, 6, 19, 20, 21]
  (.seq
    (.block 1
      (.seq
        (.region [⟨some 23, .none, true, 3, .move (.tmp 21)⟩,
          ⟨some 24, .none, true, 0, .indexAddr 85 (.tmp 19) (.tmp 21)⟩,
          ⟨some 25, .none, true, 100, .load 100 (.tmp 24)⟩,
          ⟨some 8, .none, true, 0, .alloc 100⟩,
          ⟨some 7, .none, true, 3, .assign (.tmp 23)⟩,
          ⟨none, .none, true, 0, .store 100 (.tmp 8) (.tmp 25)⟩])
      (.keep [1, 6, 7, 8, 19, 20, 21]
      (.seq
        (.seq
          (.region [⟨some 26, .none, false, 29, .move (.tmp 1)⟩,
            ⟨some 27, .none, false, 3, .move (.tmp 7)⟩,
            ⟨some 28, .none, false, 0, .indexAddr 29 (.tmp 26) (.tmp 27)⟩,
            ⟨some 29, .none, false, 23, .load 23 (.tmp 28)⟩,
            ⟨some 30, .none, false, 100, .load 100 (.tmp 8)⟩,
            ⟨some 31, .none, false, 23, .call { callee := .value (.func 59), args := #[.tmp 30], argTypes := #[100] }⟩,
            ⟨some 32, .none, false, 0, .fieldAddr 100 (.tmp 8) 0⟩,
            ⟨some 33, .none, false, 3, .load 3 (.tmp 32)⟩,
            ⟨some 34, .none, false, 23, .binOp .shr 23 (.tmp 31) (.tmp 33) 3⟩,
            ⟨some 35, .none, true, 4, .binOp .gtr 23 (.tmp 29) (.tmp 34) 23⟩])
        (.keep [1, 6, 7, 8, 19, 20, 21, 35]
        (.cond (.tmp 35)
          (.seq
            (.region [⟨some 4, .none, true, 23, .assign (.const (.int .u64 0))⟩,
              ⟨some 5, .none, true, 4, .assign (.const (.bool false))⟩])
          .ret)
          .skip)))
      (.region [⟨some 36, .none, false, 23, .move (.tmp 6)⟩,
        ⟨some 37, .none, false, 29, .move (.tmp 1)⟩,
        ⟨some 38, .none, false, 3, .move (.tmp 7)⟩,
        ⟨some 39, .none, false, 0, .indexAddr 29 (.tmp 37) (.tmp 38)⟩,
        ⟨some 40, .none, false, 23, .load 23 (.tmp 39)⟩,
        ⟨some 41, .none, false, 0, .fieldAddr 100 (.tmp 8) 0⟩,
        ⟨some 42, .none, false, 3, .load 3 (.tmp 41)⟩,
        ⟨some 43, .none, true, 23, .binOp .shl 23 (.tmp 40) (.tmp 42) 3⟩,
        ⟨some 44, .none, true, 23, .binOp .or 23 (.tmp 36) (.tmp 43) 23⟩,
        ⟨some 6, .none, true, 23, .assign (.tmp 44)⟩])))))
  (.keep [1, 6, 19, 20, 21]
  (.region [⟨some 45, .none, true, 3, .binOp .add 3 (.tmp 21) (.const (.int .i64 1)) 3⟩,
    ⟨some 21, .none, true, 3, .move (.tmp 45)⟩])))))))
def rc_tag_Put : RCode :=
  (.seq
    (.region [⟨some 4, .none, true, 23, .assign (.const (.int .u64 0))⟩,
      ⟨some 5, .none, true, 4, .assign (.const (.bool false))⟩])
  (.keep [0, 1]
  (.seq
    (.seq
      (.region [⟨some 9, .none, true, 85, .move (.tmp 0)⟩,
        ⟨some 10, .none, true, 4, .call { callee := .value (.func 58), args := #[.tmp 9], argTypes := #[85] }⟩,
        ⟨some 11, .none, true, 4, .unOp .not 4 (.tmp 10)⟩,
        ⟨some 12, .none, true, 4, .move (.tmp 11)⟩,
        ⟨some 13, .some 12 false, true, 85, .move (.tmp 0)⟩,
        ⟨some 14, .some 12 false, true, 3, .call { callee := .builtin .len, args := #[.tmp 13], argTypes := #[85] }⟩,
        ⟨some 15, .some 12 false, true, 29, .move (.tmp 1)⟩,
        ⟨some 16, .some 12 false, true, 3, .call { callee := .builtin .len, args := #[.tmp 15], argTypes := #[29] }⟩,
        ⟨some 17, .some 12 false, true, 4, .binOp .neq 3 (.tmp 14) (.tmp 16) 3⟩,
        ⟨some 18, .none, true, 4, .pick (.tmp 12) (.const (.bool true)) (.tmp 17)⟩])
    (.keep [0, 1, 18]
    (.cond (.tmp 18)
      (.seq
        (.region [⟨some 4, .none, true, 23, .assign (.const (.int .u64 0))⟩,
          ⟨some 5, .none, true, 4, .assign (.const (.bool false))⟩])
      .ret)
      .skip)))
  (.seq
    (.region [⟨some 6, .none, true, 23, .assign (.const (.int .u64 0))⟩])
  (.keep [0, 1, 6]
  (.seq
    (.seq
      (.region [⟨some 19, .none, true, 85, .move (.tmp 0)⟩,
        ⟨some 20, .none, true, 3, .call { callee := .builtin .len, args := #[.tmp 19], argTypes := #[85] }⟩,
        ⟨some 21, .none, true, 3, .move (.const (.int .i64 0))⟩])
    (.keep [1, 6, 19, 20, 21]
    (.block 0
      (.loop [1, 6, 19, 20, 21] rc_tag_Putl0))))
  (.seq
    (.region [⟨some 46, .none, true, 23, .move (.tmp 6)⟩,
      ⟨some 4, .none, true, 23, .assign (.tmp 46)⟩,
      ⟨some 5, .none, true, 4, .assign (.const (.bool true))⟩])
  .ret)))))))
theorem t_tag_Put : FnT Try.prog f_tag_Put rc_tag_Put [.tmp 4, .tmp 5] 2 := ⟨⟨[], Try.f43, _, Try.func43, rfl, by kernel_rfl, by kernel_rfl, by kernel_rfl, rfl, by decide⟩, by kernel_rfl⟩
/-- reeve/thing.bytes -/
abbrev f_thing_bytes : FuncId := 44
def rc_thing_bytesl0 : RCode :=
  (.seq
    (.region [⟨some 4, .none, true, 4, .binOp .lss 3 (.tmp 3) (.const (.int .i64 5)) 3⟩])
  (.keep [1, 3, 4]
  (.seq
    (.cond (.tmp 4)
      .skip
      (.exit 0))
  (.keep [1, 3]
  (.seq
    (.block 1
      (.seq
        (.region [⟨some 5, .none, true, 3, .move (.tmp 3)⟩,
          ⟨some 2, .none, true, 3, .assign (.tmp 5)⟩])
      (.keep [1, 2, 3]
      (.region [⟨some 6, .none, true, 85, .move (.tmp 1)⟩,
        ⟨some 7, .none, true, 3, .move (.tmp 2)⟩,
        ⟨some 8, .none, true, 3, .binOp .mul 3 (.const (.int .i64 8)) (.tmp 7) 3⟩,
        ⟨some 9, .none, true, 100, .build 100 #[(0, .tmp 8), (1, .const (.int .i64 8))]⟩,
        ⟨some 10, .none, true, 85, .buildSlice 85 1 #[(0, .tmp 9)]⟩,
        ⟨some 11, .none, true, 85, .call { callee := .builtin .append, args := #[.tmp 6, .tmp 10], argTypes := #[85, 85] }⟩,
        ⟨some 1, .none, true, 85, .assign (.tmp 11)⟩]))))
  (.keep [1, 3]
  (.region [⟨some 12, .none, true, 3, .binOp .add 3 (.tmp 3) (.const (.int .i64 1)) 3⟩,
    ⟨some 3, .none, true, 3, .move (.tmp 12)⟩])))))))
def rc_thing_bytes : RCode :=
  (.seq
    (.region [⟨some 0, .none, true, 85, .assign (.const (.slice none 0 0))⟩])
  (.keep []
  (.seq
    (.region [⟨some 1, .none, true, 85, .assign (.const (.slice none 0 0))⟩])
  (.keep [1]
  (.seq
    (.seq
      (.region [⟨some 3, .none, true, 3, .move (.const (.int .i64 0))⟩])
    (.keep [1, 3]
    (.block 0
      (.loop [1, 3] rc_thing_bytesl0))))
  (.seq
    (.region [⟨some 13, .none, true, 85, .move (.tmp 1)⟩,
      ⟨some 0, .none, true, 85, .assign (.tmp 13)⟩])
  .ret))))))
theorem t_thing_bytes : FnT Try.prog f_thing_bytes rc_thing_bytes [.tmp 0] 0 := ⟨⟨[], Try.f44, _, Try.func44, rfl, by kernel_rfl, by kernel_rfl, by kernel_rfl, rfl, by decide⟩, by kernel_rfl⟩
/-- reeve/thing.pairs -/
abbrev f_thing_pairs : FuncId := 45
def rc_thing_pairs : RCode :=
  (.seq
    (.region [⟨some 0, .none, true, 85, .assign (.const (.slice none 0 0))⟩])
  (.keep []
  (.seq
    (.region [⟨some 1, .none, true, 100, .build 100 #[(0, .const (.int .i64 0)), (1, .const (.int .i64 16))]⟩,
      ⟨some 2, .none, true, 100, .build 100 #[(0, .const (.int .i64 16)), (1, .const (.int .i64 16))]⟩,
      ⟨some 3, .none, true, 100, .build 100 #[(0, .const (.int .i64 32)), (1, .const (.int .i64 16))]⟩,
      ⟨some 4, .none, true, 85, .buildSlice 85 3 #[(0, .tmp 1), (1, .tmp 2), (2, .tmp 3)]⟩,
      ⟨some 0, .none, true, 85, .assign (.tmp 4)⟩])
  .ret)))
theorem t_thing_pairs : FnT Try.prog f_thing_pairs rc_thing_pairs [.tmp 0] 0 := ⟨⟨[], Try.f45, _, Try.func45, rfl, by kernel_rfl, by kernel_rfl, by kernel_rfl, rfl, by decide⟩, by kernel_rfl⟩
/-- reeve/tag.Get -/
abbrev f_tag_Get : FuncId := 46
def rc_tag_Getl0 : RCode :=
  (.seq
    (.region [⟨some 17, .none, true, 0, .binOp .lss 3 (.tmp 16) (.tmp 15) 3⟩])
  (.keep [0, 5, 14, 15, 16, 17]
  (.seq
    (.cond (.tmp 17)
      .skip
      (.exit 0))
  (.keep [0, 5, 14, 15, 16]
  (.seq
    (.block 1
      (.seq
        (.region [⟨some 18, .none, true, 0, .indexAddr 85 (.tmp 14) (.tmp 16)⟩,
          ⟨some 19, .none, true, 100, .load 100 (.tmp 18)⟩,
          ⟨some 7, .none, true, 0, .alloc 100⟩,
          ⟨none, .none, true, 0, .store 100 (.tmp 7) (.tmp 19)⟩])
      (.keep [0, 5, 7, 14, 15, 16]
      (.region [⟨some 20, .none, false, 29, .move (.tmp 5)⟩,
        ⟨some 21, .none, false, 23, .move (.tmp 0)⟩,
        ⟨some 22, .none, false, 100, .load 100 (.tmp 7)⟩,
        ⟨some 23, .none, false, 23, .call { callee := .value (.func 59), args := #[.tmp 22], argTypes := #[100] }⟩,
        ⟨some 24, .none, false, 23, .binOp .and 23 (.tmp 21) (.tmp 23) 23⟩,
        ⟨some 25, .none, false, 0, .fieldAddr 100 (.tmp 7) 0⟩,
        ⟨some 26, .none, false, 3, .load 3 (.tmp 25)⟩,
        ⟨some 27, .none, true, 23, .binOp .shr 23 (.tmp 24) (.tmp 26) 3⟩,
        ⟨some 28, .none, true, 29, .buildSlice 29 1 #[(0, .tmp 27)]⟩,
        ⟨some 29, .none, true, 29, .call { callee := .builtin .append, args := #[.tmp 20, .tmp 28], argTypes := #[29, 29] }⟩,
        ⟨some 5, .none, true, 29, .assign (.tmp 29)⟩]))))
  (.keep [0, 5, 14, 15, 16]
  (.region [⟨some 30, .none, true, 3, .binOp .add 3 (.tmp 16) (.const (.int .i64 1)) 3⟩,
    ⟨some 16, .none, true, 3, .move (.tmp 30)⟩])))))))
def rc_tag_Get : RCode :=
  (.seq
    (.region [⟨some 4, .none, true, 29, .assign (.const (.slice none 0 0))⟩])
  (.keep [0, 1]
  (.seq
    (.seq
      (.region [⟨some 8, .none, true, 85, .move (.tmp 1)⟩,
        ⟨some 9, .none, true, 4, .call { callee := .value (.func 58), args := #[.tmp 8], argTypes := #[85] }⟩,
        ⟨some 10, .none, true, 4, .unOp .not 4 (.tmp 9)⟩])
    (.keep [0, 1, 10]
    (.cond (.tmp 10)
      (.seq
        (.region [⟨some 4, .none, true, 29, .assign (.const (.slice none 0 0))⟩])
      .ret)
      .skip)))
  (.seq
    (.region [⟨some 11, .none, true, 85, .move (.tmp 1)⟩,
      ⟨some 12, .none, true, 3, .call { callee := .builtin .len, args := #[.tmp 11], argTypes := #[85] }⟩,
      ⟨some 13, .none, true, 29, .makeSlice 29 (.const (.int .i64 0)) (.tmp 12)⟩,
      ⟨some 5, .none, true, 29, .assign (.tmp 13)⟩])
  (.keep [0, 1, 5]
  (.seq
    (.seq
      (.region [⟨some 14, .none, true, 85, .move (.tmp 1)⟩,
        ⟨some 15, .none, true, 3, .call { callee := .builtin .len, args := #[.tmp 14], argTypes := #[85] }⟩,
        ⟨some 16, .none, true, 3, .move (.const (.int .i64 0))⟩])
    (.keep [0, 5, 14, 15, 16]
    (.block 0
      (.loop [0, 5, 14, 15, 16] rc_tag_Getl0))))
  (.seq
    (.region [⟨some 31, .none, true, 29, .move (.tmp 5)⟩,
      ⟨some 4, .none, true, 29, .assign (.tmp 31)⟩])
  .ret)))))))
theorem t_tag_Get : FnT Try.prog f_tag_Get rc_tag_Get [.tmp 4] 2 := ⟨⟨[], Try.f46, _, Try.func46, rfl, by kernel_rfl, by kernel_rfl, by kernel_rfl, rfl, by decide⟩, by kernel_rfl⟩
/-- slices.Equal[[]uint64,uint64] -/
abbrev f_slices_Equal_S_uint64_uint64 : FuncId := 47
def rc_slices_Equal_S_uint64_uint64l0 : RCode :=
  (.seq
    (.region [⟨some 14, .none, true, 0, .binOp .lss 3 (.tmp 13) (.tmp 12) 3⟩])
  (.keep [0, 1, 12, 13, 14]
  (.seq
    (.cond (.tmp 14)
      .skip
      (.exit 0))
  (.keep [0, 1, 12, 13]
  (.seq
    (.block 1
      (.seq
        (.region [⟨some 15, .none, true, 3, .move (.tmp 13)⟩,
          ⟨some 5, .none, true, 3, .assign (.tmp 15)⟩])
      (.keep [0, 1, 5, 12, 13]
      (.seq
        (.region [⟨some 16, .none, false, 29, .move (.tmp 0)⟩,
          ⟨some 17, .none, false, 3, .move (.tmp 5)⟩,
          ⟨some 18, .none, false, 0, .indexAddr 29 (.tmp 16) (.tmp 17)⟩,
          ⟨some 19, .none, false, 23, .load 23 (.tmp 18)⟩,
          ⟨some 20, .none, false, 29, .move (.tmp 1)⟩,
          ⟨some 21, .none, false, 3, .move (.tmp 5)⟩,
          ⟨some 22, .none, false, 0, .indexAddr 29 (.tmp 20) (.tmp 21)⟩,
          ⟨some 23, .none, false, 23, .load 23 (.tmp 22)⟩,
          ⟨some 24, .none, true, 4, .binOp .neq 23 (.tmp 19) (.tmp 23) 23⟩])
      (.keep [0, 1, 12, 13, 24]
      (.cond (.tmp 24)
        (.seq
          (.region [⟨some 4, .none, true, 4, .assign (.const (.bool false))⟩])
        .ret)
        .skip))))))
  (.keep [0, 1, 12, 13]
  (.region [⟨some 25, .none, true, 3, .binOp .add 3 (.tmp 13) (.const (.int .i64 1)) 3⟩,
    ⟨some 13, .none, true, 3, .move (.tmp 25)⟩])))))))
def rc_slices_Equal_S_uint64_uint64 : RCode :=
  (.seq
    (.region [⟨some 4, .none, true, 4, .assign (.const (.bool false))⟩])
  (.keep [0, 1]
  (.seq
    (.seq
      (.region [⟨some 6, .none, true, 29, .move (.tmp 0)⟩,
        ⟨some 7, .none, true, 3, .call { callee := .builtin .len, args := #[.tmp 6], argTypes := #[29] }⟩,
        ⟨some 8, .none, true, 29, .move (.tmp 1)⟩,
        ⟨some 9, .none, true, 3, .call { callee := .builtin .len, args := #[.tmp 8], argTypes := #[29] }⟩,
        ⟨some 10, .none, true, 4, .binOp .neq 3 (.tmp 7) (.tmp 9) 3⟩])
    (.keep [0, 1, 10]
    (.cond (.tmp 10)
      (.seq
        (.region [⟨some 4, .none, true, 4, .assign (.const (.bool false))⟩])
      .ret)
      .skip)))
  (.seq
    (.seq
      (.region [⟨some 11, .none, true, 29, .move (.tmp 0)⟩,
        ⟨some 12, .none, true, 3, .call { callee := .builtin .len, args := #[.tmp 11], argTypes := #[29] }⟩,
        ⟨some 13, .none, true, 3, .move (.const (.int .i64 0))⟩])
    (.keep [0, 1, 12, 13]
    (.block 0
      (.loop [0, 1, 12, 13] rc_slices_Equal_S_uint64_uint64l0))))
  (.seq
    (.region [⟨some 4, .none, true, 4, .assign (.const (.bool true))⟩])
  .ret)))))
theorem t_slices_Equal_S_uint64_uint64 : FnT Try.prog f_slices_Equal_S_uint64_uint64 rc_slices_Equal_S_uint64_uint64 [.tmp 4] 2 := ⟨⟨[], Try.f47, _, Try.func47, rfl, by kernel_rfl, by kernel_rfl, by kernel_rfl, rfl, by decide⟩, by kernel_rfl⟩
/-- reeve/reeveref11.within -/
abbrev f_reeveref11_within : FuncId := 48
def rc_reeveref11_within : RCode :=
  (.seq
    (.region [⟨some 6, .none, true, 4, .assign (.const (.bool false))⟩])
  (.keep [0, 1, 2]
  (.seq
    (.region [⟨some 7, .none, true, 3, .move (.tmp 0)⟩,
      ⟨some 8, .none, true, 3, .move (.tmp 1)⟩,
      ⟨some 9, .none, true, 4, .binOp .geq 3 (.tmp 7) (.tmp 8) 3⟩,
      ⟨some 10, .none, true, 4, .move (.tmp 9)⟩,
      ⟨some 11, .some 10 true, true, 3, .move (.tmp 0)⟩,
      ⟨some 12, .some 10 true, true, 3, .move (.tmp 2)⟩,
      ⟨some 13, .some 10 true, true, 4, .binOp .leq 3 (.tmp 11) (.tmp 12) 3⟩,
      ⟨some 14, .none, true, 4, .pick (.tmp 10) (.tmp 13) (.const (.bool false))⟩,
      ⟨some 6, .none, true, 4, .assign (.tmp 14)⟩])
  .ret)))
theorem t_reeveref11_within : FnT Try.prog f_reeveref11_within rc_reeveref11_within [.tmp 6] 3 := ⟨⟨[], Try.f48, _, Try.func48, rfl, by kernel_rfl, by kernel_rfl, by kernel_rfl, rfl, by decide⟩, by kernel_rfl⟩
/-- reeve/reeveref11.two -/
abbrev f_reeveref11_two : FuncId := 49
def rc_reeveref11_twol0 : RCode :=
  (.seq
    (.seq
      (.region [⟨some 5, .none, true, 3, .move (.tmp 4)⟩,
        ⟨some 6, .none, true, 3, .move (.tmp 0)⟩,
        ⟨some 7, .none, true, 4, .binOp .lss 3 (.tmp 5) (.tmp 6) 3⟩])
    (.keep [0, 3, 4, 7]
    (.cond (.tmp 7)
      .skip
      (.exit 0))))
  (.seq
    (.block 1
      (.region [⟨some 10, .none, true, 3, .move (.tmp 3)⟩,
        ⟨some 11, .none, true, 3, .binOp .mul 3 (.const (.int .i64 2)) (.tmp 10) 3⟩,
        ⟨some 3, .none, true, 3, .assign (.tmp 11)⟩]))
  (.keep [0, 3, 4]
  (.region [⟨some 8, .none, true, 3, .move (.tmp 4)⟩,
    ⟨some 9, .none, true, 3, .binOp .add 3 (.tmp 8) (.const (.int .i64 1)) 3⟩,
    ⟨some 4, .none, true, 3, .assign (.tmp 9)⟩]))))
def rc_reeveref11_two : RCode :=
  (.seq
    (.region [⟨some 2, .none, true, 3, .assign (.const (.int .i64 0))⟩])
  (.keep [0]
  (.seq
    (.region [⟨some 3, .none, true, 3, .assign (.const (.int .i64 1))⟩])
  (.keep [0, 3]
  (.seq
    (.seq
      (.region [⟨some 4, .none, true, 3, .assign (.const (.int .i64 0))⟩])
    (.keep [0, 3, 4]
    (.block 0
      (.loop [0, 3, 4] rc_reeveref11_twol0))))
  (.seq
    (.region [⟨some 12, .none, true, 3, .move (.tmp 3)⟩,
      ⟨some 2, .none, true, 3, .assign (.tmp 12)⟩])
  .ret))))))
theorem t_reeveref11_two : FnT Try.prog f_reeveref11_two rc_reeveref11_two [.tmp 2] 1 := ⟨⟨[], Try.f49, _, Try.func49, rfl, by kernel_rfl, by kernel_rfl, by kernel_rfl, rfl, by decide⟩, by kernel_rfl⟩
/-- reeve/tag.Good -/
abbrev f_tag_Good : FuncId := 58
def rc_tag_Good : RCode :=
  (.seq
    (.region [⟨some 2, .none, true, 4, .assign (.const (.bool false))⟩])
  (.keep [0]
  (.seq
    (.region [⟨some 6, .none, true, 85, .move (.tmp 0)⟩,
      ⟨some 7, .none, true, 83, .call { callee := .value (.func 67), args := #[.tmp 6], argTypes := #[85] }⟩,
      ⟨some 5, .none, true, 83, .move (.tmp 7)⟩,
      ⟨some 8, .none, true, 23, .extract (.tmp 5) 0⟩,
      ⟨some 9, .none, true, 4, .extract (.tmp 5) 1⟩,
      ⟨some 3, .none, true, 23, .assign (.tmp 8)⟩,
      ⟨some 4, .none, true, 4, .assign (.tmp 9)⟩])
  (.keep [4]
  (.seq
    (.region [⟨some 10, .none, true, 4, .move (.tmp 4)⟩,
      ⟨some 2, .none, true, 4, .assign (.tmp 10)⟩])
  .ret)))))
theorem t_tag_Good : FnT Try.prog f_tag_Good rc_tag_Good [.tmp 2] 1 := ⟨⟨[], Try.f58, _, Try.func58, rfl, by kernel_rfl, by kernel_rfl, by kernel_rfl, rfl, by decide⟩, by kernel_rfl⟩
/-- (reeve/tag.Field).mask -/
abbrev f_tag_Field_mask : FuncId := 59
def rc_tag_Field_mask : RCode :=
  (.seq
    (.region [⟨some 1, .none, true, 0, .box 100 (.tmp 0)⟩,
      ⟨some 2, .none, true, 23, .assign (.const (.int .u64 0))⟩])
  (.keep [1]
  (.seq
    (.region [⟨some 3, .none, false, 0, .fieldAddr 100 (.tmp 1) 1⟩,
      ⟨some 4, .none, false, 3, .load 3 (.tmp 3)⟩,
      ⟨some 5, .none, false, 23, .binOp .shl 23 (.const (.int .u64 1)) (.tmp 4) 3⟩,
      ⟨some 6, .none, false, 23, .binOp .sub 23 (.tmp 5) (.const (.int .u64 1)) 23⟩,
      ⟨some 7, .none, false, 0, .fieldAddr 100 (.tmp 1) 0⟩,
      ⟨some 8, .none, false, 3, .load 3 (.tmp 7)⟩,
      ⟨some 9, .none, true, 23, .binOp .shl 23 (.tmp 6) (.tmp 8) 3⟩,
      ⟨some 2, .none, true, 23, .assign (.tmp 9)⟩])
  .ret)))
theorem t_tag_Field_mask : FnT Try.prog f_tag_Field_mask rc_tag_Field_mask [.tmp 2] 1 := ⟨⟨[], Try.f59, _, Try.func59, rfl, by kernel_rfl, by kernel_rfl, by kernel_rfl, rfl, by decide⟩, by kernel_rfl⟩
/-- reeve/tag.all -/
abbrev f_tag_all : FuncId := 67
def rc_tag_alll0 : RCode :=
  (.seq
    (.region [⟨some 10, .none, true, 0, .binOp .lss 3 (.tmp 9) (.tmp 8) 3⟩])
  (.keep [4, 7, 8, 9, 10]
  (.seq
    (.cond (.tmp 10)
      .skip
      (.exit 0))
  (.keep [4, 7, 8, 9]
  (.seq
    (.block 1
      (.seq
        (.region [⟨some 11, .none, true, 0, .indexAddr 85 (.tmp 7) (.tmp 9)⟩,
          ⟨some 12, .none, true, 100, .load 100 (.tmp 11)⟩,
          ⟨some 6, .none, true, 0, .alloc 100⟩,
          ⟨none, .none, true, 0, .store 100 (.tmp 6) (.tmp 12)⟩])
      (.keep [4, 6, 7, 8, 9]
      (.seq
        (.seq
          (.region [⟨some 13, .none, true, 0, .fieldAddr 100 (.tmp 6) 0⟩,
            ⟨some 14, .none, true, 3, .load 3 (.tmp 13)⟩,
            ⟨some 15, .none, true, 4, .binOp .lss 3 (.tmp 14) (.const (.int .i64 0)) 3⟩,
            ⟨some 16, .none, true, 4, .move (.tmp 15)⟩,
            ⟨some 17, .some 16 false, true, 0, .fieldAddr 100 (.tmp 6) 0⟩,
            ⟨some 18, .some 16 false, true, 3, .load 3 (.tmp 17)⟩,
            ⟨some 19, .some 16 false, true, 4, .binOp .geq 3 (.tmp 18) (.const (.int .i64 64)) 3⟩,
            ⟨some 20, .none, true, 4, .pick (.tmp 16) (.const (.bool true)) (.tmp 19)⟩,
            ⟨some 21, .none, true, 4, .move (.tmp 20)⟩,
            ⟨some 22, .some 21 false, true, 0, .fieldAddr 100 (.tmp 6) 1⟩,
            ⟨some 23, .some 21 false, true, 3, .load 3 (.tmp 22)⟩,
            ⟨some 24, .some 21 false, true, 4, .binOp .lss 3 (.tmp 23) (.const (.int .i64 1)) 3⟩,
            ⟨some 25, .none, true, 4, .pick (.tmp 21) (.const (.bool true)) (.tmp 24)⟩,
            ⟨some 26, .none, true, 4, .move (.tmp 25)⟩,
            ⟨some 27, .some 26 false, true, 0, .fieldAddr 100 (.tmp 6) 1⟩,
            ⟨some 28, .some 26 false, true, 3, .load 3 (.tmp 27)⟩,
            ⟨some 29, .some 26 false, true, 0, .fieldAddr 100 (.tmp 6) 0⟩,
            ⟨some 30, .some 26 false, true, 3, .load 3 (.tmp 29)⟩,
            ⟨some 31, .some 26 false, true, 3, .binOp .sub 3 (.const (.int .i64 64)) (.tmp 30) 3⟩,
            ⟨some 32, .some 26 false, true, 4, .binOp .gtr 3 (.tmp 28) (.tmp 31) 3⟩,
            ⟨some 33, .none, true, 4, .pick (.tmp 26) (.const (.bool true)) (.tmp 32)⟩,
            ⟨some 34, .none, true, 4, .move (.tmp 33)⟩,
            ⟨some 35, .some 34 false, true, 23, .move (.tmp 4)⟩,
            ⟨some 36, .some 34 false, true, 100, .load 100 (.tmp 6)⟩,
            ⟨some 37, .some 34 false, true, 23, .call { callee := .value (.func 59), args := #[.tmp 36], argTypes := #[100] }⟩,
            ⟨some 38, .some 34 false, true, 23, .binOp .and 23 (.tmp 35) (.tmp 37) 23⟩,
            ⟨some 39, .some 34 false, true, 4, .binOp .neq 23 (.tmp 38) (.const (.int .u64 0)) 23⟩,
            ⟨some 40, .none, true, 4, .pick (.tmp 34) (.const (.bool true)) (.tmp 39)⟩])
        (.keep [4, 6, 7, 8, 9, 40]
        (.cond (.tmp 40)
          (.seq
            (.region [⟨some 2, .none, true, 23, .assign (.const (.int .u64 0))⟩,
              ⟨some 3, .none, true, 4, .assign (.const (.bool false))⟩])
          .ret)
          .skip)))
      (.region [⟨some 41, .none, true, 23, .move (.tmp 4)⟩,
        ⟨some 42, .none, true, 100, .load 100 (.tmp 6)⟩,
        ⟨some 43, .none, true, 23, .call { callee := .value (.func 59), args := #[.tmp 42], argTypes := #[100] }⟩,
        ⟨some 44, .none, true, 23, .binOp .or 23 (.tmp 41) (.tmp 43) 23⟩,
        ⟨some 4, .none, true, 23, .assign (.tmp 44)⟩])))))
  (.keep [4, 7, 8, 9]
  (.region [⟨some 45, .none, true, 3, .binOp .add 3 (.tmp 9) (.const (.int .i64 1)) 3⟩,
    ⟨some 9, .none, true, 3, .move (.tmp 45)⟩])))))))
def rc_tag_all : RCode :=
  (.seq
    (.region [⟨some 2, .none, true, 23, .assign (.const (.int .u64 0))⟩,
      ⟨some 3, .none, true, 4, .assign (.const (.bool false))⟩])
  (.keep [0]
  (.seq
    (.region [⟨some 4, .none, true, 23, .assign (.const (.int .u64 0))⟩])
  (.keep [0, 4]
  (.seq
    (.seq
      (.region [⟨some 7, .none, true, 85, .move (.tmp 0)⟩,
        ⟨some 8, .none, true, 3, .call { callee := .builtin .len, args := #[.tmp 7], argTypes := #[85] }⟩,
        ⟨some 9, .none, true, 3, .move (.const (.int .i64 0))⟩])
    (.keep [4, 7, 8, 9]
    (.block 0
      (.loop [4, 7, 8, 9] rc_tag_alll0))))
  (.seq
    (.region [⟨some 46, .none, true, 23, .move (.tmp 4)⟩,
      ⟨some 2, .none, true, 23, .assign (.tmp 46)⟩,
      ⟨some 3, .none, true, 4, .assign (.const (.bool true))⟩])
  .ret))))))
theorem t_tag_all : FnT Try.prog f_tag_all rc_tag_all [.tmp 2, .tmp 3] 1 := ⟨⟨[], Try.f67, _, Try.func67, rfl, by kernel_rfl, by kernel_rfl, by kernel_rfl, rfl, by decide⟩, by kernel_rfl⟩
def tab : XTab :=
  [(3, rc_reevelaw11_ThingKnown, [.tmp 0], 0),
   (4, rc_reevelaw11_ThingSays, [.tmp 10], 5),
   (5, rc_reevelaw11_ThingBack, [.tmp 4], 2),
   (6, rc_reevelaw11_ThingApart, [.tmp 4], 2),
   (7, rc_reevelaw11_ThingNew, [.tmp 6], 3),
   (13, rc_reevelaw11_awake, [.tmp 0], 0),
   (14, rc_thing_Good, [.tmp 2], 1),
   (15, rc_thing_Put, [.tmp 2], 1),
   (16, rc_thing_Cost, [.tmp 4, .tmp 5], 2),
   (17, rc_thing_New, [.cell 6 26, .tmp 7], 3),
   (18, rc_thing_Get, [.cell 2 26, .tmp 3], 1),
   (19, rc_reeveref11_GetThing, [.cell 2 36, .tmp 3], 1),
   (20, rc_reeveref11_Cost, [.tmp 4, .tmp 5], 2),
   (21, rc_reeveref11_NewThing, [.cell 6 36, .tmp 7], 3),
   (22, rc_reeveref11_GoodThing, [.tmp 2], 1),
   (23, rc_reevelaw11_thingOf, [.cell 2 36], 1),
   (24, rc_reevelaw11_words, [.tmp 4], 2),
   (25, rc_reeveref11_PutThing, [.tmp 2], 1),
   (41, rc_thing_own, [.cell 2 26], 1),
   (42, rc_thing_in, [.tmp 6], 3),
   (43, rc_tag_Put, [.tmp 4, .tmp 5], 2),
   (44, rc_thing_bytes, [.tmp 0], 0),
   (45, rc_thing_pairs, [.tmp 0], 0),
   (46, rc_tag_Get, [.tmp 4], 2),
   (47, rc_slices_Equal_S_uint64_uint64, [.tmp 4], 2),
   (48, rc_reeveref11_within, [.tmp 6], 3),
   (49, rc_reeveref11_two, [.tmp 2], 1),
   (58, rc_tag_Good, [.tmp 2], 1),
   (59, rc_tag_Field_mask, [.tmp 2], 1),
   (67, rc_tag_all, [.tmp 2, .tmp 3], 1)]
theorem tabOk : TabOk Try.prog tab :=
  .cons t_reevelaw11_ThingKnown <|
  .cons t_reevelaw11_ThingSays <|
  .cons t_reevelaw11_ThingBack <|
  .cons t_reevelaw11_ThingApart <|
  .cons t_reevelaw11_ThingNew <|
  .cons t_reevelaw11_awake <|
  .cons t_thing_Good <|
  .cons t_thing_Put <|
  .cons t_thing_Cost <|
  .cons t_thing_New <|
  .cons t_thing_Get <|
  .cons t_reeveref11_GetThing <|
  .cons t_reeveref11_Cost <|
  .cons t_reeveref11_NewThing <|
  .cons t_reeveref11_GoodThing <|
  .cons t_reevelaw11_thingOf <|
  .cons t_reevelaw11_words <|
  .cons t_reeveref11_PutThing <|
  .cons t_thing_own <|
  .cons t_thing_in <|
  .cons t_tag_Put <|
  .cons t_thing_bytes <|
  .cons t_thing_pairs <|
  .cons t_tag_Get <|
  .cons t_slices_Equal_S_uint64_uint64 <|
  .cons t_reeveref11_within <|
  .cons t_reeveref11_two <|
  .cons t_tag_Good <|
  .cons t_tag_Field_mask <|
  .cons t_tag_all <| .nil

end Go.Proofs.Ytafpgojoemcgnaa.F11
