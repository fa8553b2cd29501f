/-
  Functions of the program, as the abstract machine reads them (group Fixed). Written by a program (gen.py) off the model's own reading of the translation; the seat's check ties them to it.
-/
import Derived.Test.YtlkfmmfmefobnaaEngCore
set_option linter.unusedSimpArgs false
set_option linter.unusedVariables false
set_option linter.unnecessarySimpa false
namespace Go.Eng.F

/-! fixed_mode -/
def fixed_mode.r0 : List AI := [
  { dst := some 2, op := .mov (.c (.bool false)) }]
def fixed_mode.r1 : List AI := [
  { dst := some 3, op := .mov (.t 0) },
  { dst := some 4, op := .bin .geq (.t 3) (.c (.int .i64 (1))) },
  { dst := some 5, op := .mov (.t 4) },
  { dst := some 6, op := .mov (.t 0), guard := some (5, true) },
  { dst := some 7, op := .bin .leq (.t 6) (.c (.int .i64 (3))), guard := some (5, true) },
  { dst := some 8, op := .pick (.t 5) (.t 7) (.c (.bool false)) },
  { dst := some 2, op := .mov (.t 8) }]
def fixed_mode.c : ACode := (.seq (.dr (.ops fixed_mode.r0 false) [2] []) (.seq (.dr (.ops fixed_mode.r1 false) [0, 3, 4, 5, 6, 7, 8] []) .ret))
def fixed_mode : AFn := ⟨1, fixed_mode.c, [.tmp 2]⟩

/-! fixed_Valid -/
def fixed_Valid.r0 : List AI := [
  { dst := some 1, op := .box 1 (.t 0) },
  { dst := some 2, op := .mov (.c (.bool false)) }]
def fixed_Valid.r1 : List AI := [
  { dst := some 3, op := .fadr (.t 1) 0 },
  { dst := some 4, op := .ld false 1 (.t 3) },
  { dst := some 5, op := .bin .lss (.t 4) (.c (.int .i64 (4))) },
  { dst := some 6, op := .mov (.t 5) },
  { dst := some 7, op := .fadr (.t 1) 0, guard := some (6, false) },
  { dst := some 8, op := .ld false 1 (.t 7), guard := some (6, false) },
  { dst := some 9, op := .bin .gtr (.t 8) (.c (.int .i64 (24))), guard := some (6, false) },
  { dst := some 10, op := .pick (.t 6) (.c (.bool true)) (.t 9) },
  { dst := some 11, op := .mov (.t 10) },
  { dst := some 12, op := .fadr (.t 1) 1, guard := some (11, false) },
  { dst := some 13, op := .ld false 1 (.t 12), guard := some (11, false) },
  { dst := some 14, op := .bin .lss (.t 13) (.c (.int .i64 (0))), guard := some (11, false) },
  { dst := some 15, op := .pick (.t 11) (.c (.bool true)) (.t 14) },
  { dst := some 16, op := .mov (.t 15) },
  { dst := some 17, op := .fadr (.t 1) 1, guard := some (16, false) },
  { dst := some 18, op := .ld false 1 (.t 17), guard := some (16, false) },
  { dst := some 19, op := .fadr (.t 1) 0, guard := some (16, false) },
  { dst := some 20, op := .ld false 1 (.t 19), guard := some (16, false) },
  { dst := some 21, op := .bin .geq (.t 18) (.t 20), guard := some (16, false) },
  { dst := some 22, op := .pick (.t 16) (.c (.bool true)) (.t 21) }]
def fixed_Valid.r2 : List AI := [
  { dst := some 2, op := .mov (.c (.bool false)) }]
def fixed_Valid.r3 : List AI := [
  { dst := some 23, op := .fadr (.t 1) 2 },
  { dst := some 24, op := .ld false 1 (.t 23) },
  { dst := some 25, op := .call 1 [(.t 24)] },
  { dst := some 26, op := .mov (.t 25) },
  { dst := some 27, op := .fadr (.t 1) 3, guard := some (26, true) },
  { dst := some 28, op := .ld false 1 (.t 27), guard := some (26, true) },
  { dst := some 29, op := .bin .eql (.t 28) (.c (.int .i64 (1))), guard := some (26, true) },
  { dst := some 30, op := .mov (.t 29), guard := some (26, true) },
  { dst := some 31, op := .fadr (.t 1) 3, guard := some (30, false) },
  { dst := some 32, op := .ld false 1 (.t 31), guard := some (30, false) },
  { dst := some 33, op := .bin .eql (.t 32) (.c (.int .i64 (2))), guard := some (30, false) },
  { dst := some 34, op := .pick (.t 30) (.c (.bool true)) (.t 33), guard := some (26, true) },
  { dst := some 35, op := .pick (.t 26) (.t 34) (.c (.bool false)) },
  { dst := some 2, op := .mov (.t 35) }]
def fixed_Valid.c : ACode := (.seq (.dr (.ops fixed_Valid.r0 false) [0, 2] []) (.seq (.seq (.dr (.ops fixed_Valid.r1 false) [3, 4, 5, 6, 7, 8, 9, 10, 11, 12, 13, 14, 15, 16, 17, 18, 19, 20, 21] []) (.cond (.t 22) (.seq (.dr (.ops fixed_Valid.r2 false) [1, 22] []) .ret) .skip)) (.seq (.dr (.ops fixed_Valid.r3 false) [1, 22, 23, 24, 25, 26, 27, 28, 29, 30, 31, 32, 33, 34, 35] []) .ret)))
def fixed_Valid : AFn := ⟨1, fixed_Valid.c, [.tmp 2]⟩

/-! fixed_Low -/
def fixed_Low.r0 : List AI := [
  { dst := some 1, op := .box 1 (.t 0) },
  { dst := some 2, op := .mov (.c (.int .i64 (0))) }]
def fixed_Low.r1 : List AI := [
  { dst := some 3, op := .ld true 4 (.t 1) },
  { dst := some 4, op := .call 2 [(.t 3)] },
  { dst := some 5, op := .un .not (.t 4) }]
def fixed_Low.r2 : List AI := [
  { dst := some 2, op := .mov (.c (.int .i64 (0))) }]
def fixed_Low.r3 : List AI := [
  { dst := some 6, op := .fadr (.t 1) 0 },
  { dst := some 7, op := .ld false 1 (.t 6) },
  { dst := some 8, op := .bin .sub (.t 7) (.c (.int .i64 (1))) },
  { dst := some 9, op := .bin .shl (.c (.int .i64 (1))) (.t 8) },
  { dst := some 10, op := .un .neg (.t 9) },
  { dst := some 2, op := .mov (.t 10) }]
def fixed_Low.c : ACode := (.seq (.dr (.ops fixed_Low.r0 false) [0, 2] []) (.seq (.seq (.dr (.ops fixed_Low.r1 false) [3, 4] []) (.cond (.t 5) (.seq (.dr (.ops fixed_Low.r2 false) [1, 5] []) .ret) .skip)) (.seq (.dr (.ops fixed_Low.r3 false) [1, 5, 6, 7, 8, 9, 10] []) .ret)))
def fixed_Low : AFn := ⟨1, fixed_Low.c, [.tmp 2]⟩

/-! fixed_High -/
def fixed_High.r0 : List AI := [
  { dst := some 1, op := .box 1 (.t 0) },
  { dst := some 2, op := .mov (.c (.int .i64 (0))) }]
def fixed_High.r1 : List AI := [
  { dst := some 3, op := .ld true 4 (.t 1) },
  { dst := some 4, op := .call 2 [(.t 3)] },
  { dst := some 5, op := .un .not (.t 4) }]
def fixed_High.r2 : List AI := [
  { dst := some 2, op := .mov (.c (.int .i64 (0))) }]
def fixed_High.r3 : List AI := [
  { dst := some 6, op := .fadr (.t 1) 0 },
  { dst := some 7, op := .ld false 1 (.t 6) },
  { dst := some 8, op := .bin .sub (.t 7) (.c (.int .i64 (1))) },
  { dst := some 9, op := .bin .shl (.c (.int .i64 (1))) (.t 8) },
  { dst := some 10, op := .bin .sub (.t 9) (.c (.int .i64 (1))) },
  { dst := some 2, op := .mov (.t 10) }]
def fixed_High.c : ACode := (.seq (.dr (.ops fixed_High.r0 false) [0, 2] []) (.seq (.seq (.dr (.ops fixed_High.r1 false) [3, 4] []) (.cond (.t 5) (.seq (.dr (.ops fixed_High.r2 false) [1, 5] []) .ret) .skip)) (.seq (.dr (.ops fixed_High.r3 false) [1, 5, 6, 7, 8, 9, 10] []) .ret)))
def fixed_High : AFn := ⟨1, fixed_High.c, [.tmp 2]⟩

/-! fixed_Fits -/
def fixed_Fits.r0 : List AI := [
  { dst := some 2, op := .box 2 (.t 0) },
  { dst := some 4, op := .mov (.c (.bool false)) }]
def fixed_Fits.r1 : List AI := [
  { dst := some 5, op := .ld true 4 (.t 2) },
  { dst := some 6, op := .call 2 [(.t 5)] },
  { dst := some 7, op := .mov (.t 6) },
  { dst := some 8, op := .mov (.t 1), guard := some (7, true) },
  { dst := some 9, op := .ld true 4 (.t 2), guard := some (7, true) },
  { dst := some 10, op := .call 3 [(.t 9)], guard := some (7, true) },
  { dst := some 11, op := .bin .geq (.t 8) (.t 10), guard := some (7, true) },
  { dst := some 12, op := .pick (.t 7) (.t 11) (.c (.bool false)) },
  { dst := some 13, op := .mov (.t 12) },
  { dst := some 14, op := .mov (.t 1), guard := some (13, true) },
  { dst := some 15, op := .ld true 4 (.t 2), guard := some (13, true) },
  { dst := some 16, op := .call 4 [(.t 15)], guard := some (13, true) },
  { dst := some 17, op := .bin .leq (.t 14) (.t 16), guard := some (13, true) },
  { dst := some 18, op := .pick (.t 13) (.t 17) (.c (.bool false)) },
  { dst := some 4, op := .mov (.t 18) }]
def fixed_Fits.c : ACode := (.seq (.dr (.ops fixed_Fits.r0 false) [0, 4] []) (.seq (.dr (.ops fixed_Fits.r1 false) [1, 2, 5, 6, 7, 8, 9, 10, 11, 12, 13, 14, 15, 16, 17, 18] []) .ret))
def fixed_Fits : AFn := ⟨2, fixed_Fits.c, [.tmp 4]⟩

/-! fixed_Shift -/
def fixed_Shift.r0 : List AI := [
  { dst := some 6, op := .mov (.c (.int .i64 (0))) }]
def fixed_Shift.r1 : List AI := [
  { dst := some 9, op := .mov (.t 1) },
  { dst := some 10, op := .bin .lss (.t 9) (.c (.int .i64 (0))) },
  { dst := some 11, op := .mov (.t 10) },
  { dst := some 12, op := .mov (.t 1), guard := some (11, false) },
  { dst := some 13, op := .bin .gtr (.t 12) (.c (.int .i64 (62))), guard := some (11, false) },
  { dst := some 14, op := .pick (.t 11) (.c (.bool true)) (.t 13) },
  { dst := some 15, op := .mov (.t 14) },
  { dst := some 16, op := .mov (.t 2), guard := some (15, false) },
  { dst := some 17, op := .call 1 [(.t 16)], guard := some (15, false) },
  { dst := some 18, op := .un .not (.t 17), guard := some (15, false) },
  { dst := some 19, op := .pick (.t 15) (.c (.bool true)) (.t 18) }]
def fixed_Shift.r2 : List AI := [
  { dst := some 6, op := .mov (.c (.int .i64 (0))) }]
def fixed_Shift.r3 : List AI := [
  { dst := some 20, op := .mov (.t 1) },
  { dst := some 21, op := .bin .eql (.t 20) (.c (.int .i64 (0))) }]
def fixed_Shift.r4 : List AI := [
  { dst := some 22, op := .mov (.t 0) },
  { dst := some 6, op := .mov (.t 22) }]
def fixed_Shift.r5 : List AI := [
  { dst := some 23, op := .mov (.t 0) },
  { dst := some 24, op := .mov (.t 1) },
  { dst := some 25, op := .bin .shr (.t 23) (.t 24) },
  { dst := some 7, op := .mov (.t 25) }]
def fixed_Shift.r6 : List AI := [
  { dst := some 26, op := .mov (.t 7) },
  { dst := some 27, op := .mov (.t 7) },
  { dst := some 28, op := .mov (.t 0) },
  { dst := some 29, op := .mov (.t 1) },
  { dst := some 30, op := .bin .sub (.t 29) (.c (.int .i64 (1))) },
  { dst := some 31, op := .bin .shr (.t 28) (.t 30) },
  { dst := some 32, op := .bin .and (.t 31) (.c (.int .i64 (1))) },
  { dst := some 33, op := .bin .add (.t 27) (.t 32) },
  { dst := some 34, op := .mov (.t 7) },
  { dst := some 35, op := .build [(.int .i64 (0)), (.int .i64 (0)), (.int .i64 (0))] [(0, 1, (.t 26)), (1, 1, (.t 33)), (2, 1, (.t 34))] },
  { dst := some 8, op := .alloc 8 [(.int .i64 (0)), (.int .i64 (0)), (.int .i64 (0))] },
  { dst := none, op := .st 3 (.t 8) (.t 35) }]
def fixed_Shift.r7 : List AI := [
  { dst := some 36, op := .mov (.t 0) },
  { dst := some 37, op := .bin .lss (.t 36) (.c (.int .i64 (0))) },
  { dst := some 38, op := .mov (.t 37) },
  { dst := some 39, op := .mov (.t 0), guard := some (38, true) },
  { dst := some 40, op := .mov (.t 1), guard := some (38, true) },
  { dst := some 41, op := .bin .shl (.c (.int .i64 (1))) (.t 40), guard := some (38, true) },
  { dst := some 42, op := .bin .sub (.t 41) (.c (.int .i64 (1))), guard := some (38, true) },
  { dst := some 43, op := .bin .and (.t 39) (.t 42), guard := some (38, true) },
  { dst := some 44, op := .bin .neq (.t 43) (.c (.int .i64 (0))), guard := some (38, true) },
  { dst := some 45, op := .pick (.t 38) (.t 44) (.c (.bool false)) }]
def fixed_Shift.r8 : List AI := [
  { dst := some 46, op := .iadr (some 3) 1 (.t 8) (.c (.int .i64 (2))) },
  { dst := some 47, op := .ld false 1 (.t 46) },
  { dst := some 48, op := .bin .add (.t 47) (.c (.int .i64 (1))) },
  { dst := some 49, op := .iadr (some 3) 1 (.t 8) (.c (.int .i64 (2))) },
  { dst := none, op := .st 1 (.t 49) (.t 48) }]
def fixed_Shift.r9 : List AI := [
  { dst := some 50, op := .mov (.t 2) },
  { dst := some 51, op := .bin .sub (.t 50) (.c (.int .i64 (1))) },
  { dst := some 52, op := .iadr (some 3) 1 (.t 8) (.t 51) },
  { dst := some 53, op := .ld false 1 (.t 52) },
  { dst := some 6, op := .mov (.t 53) }]
def fixed_Shift.c : ACode := (.seq (.dr (.ops fixed_Shift.r0 false) [6] []) (.seq (.seq (.dr (.ops fixed_Shift.r1 false) [9, 10, 11, 12, 13, 14, 15, 16, 17, 18] []) (.cond (.t 19) (.seq (.dr (.ops fixed_Shift.r2 false) [0, 1, 2, 19] []) .ret) .skip)) (.seq (.seq (.dr (.ops fixed_Shift.r3 false) [19, 20] []) (.cond (.t 21) (.seq (.dr (.ops fixed_Shift.r4 false) [0, 1, 2, 21, 22] []) .ret) .skip)) (.seq (.dr (.ops fixed_Shift.r5 false) [21, 23, 24, 25] []) (.seq (.dr (.ops fixed_Shift.r6 false) [7, 26, 27, 28, 29, 30, 31, 32, 33, 34, 35] []) (.seq (.seq (.dr (.ops fixed_Shift.r7 false) [0, 1, 36, 37, 38, 39, 40, 41, 42, 43, 44] []) (.cond (.t 45) (.dr (.ops fixed_Shift.r8 false) [45, 46, 47, 48, 49] []) .skip)) (.seq (.dr (.ops fixed_Shift.r9 false) [2, 8, 45, 50, 51, 52, 53] []) .ret)))))))
def fixed_Shift : AFn := ⟨3, fixed_Shift.c, [.tmp 6]⟩

/-! fixed_Wrap -/
def fixed_Wrap.r0 : List AI := [
  { dst := some 4, op := .mov (.c (.int .i64 (0))) }]
def fixed_Wrap.r1 : List AI := [
  { dst := some 6, op := .mov (.t 0) },
  { dst := some 7, op := .bin .lss (.t 6) (.c (.int .i64 (1))) },
  { dst := some 8, op := .mov (.t 7) },
  { dst := some 9, op := .mov (.t 0), guard := some (8, false) },
  { dst := some 10, op := .bin .gtr (.t 9) (.c (.int .i64 (62))), guard := some (8, false) },
  { dst := some 11, op := .pick (.t 8) (.c (.bool true)) (.t 10) }]
def fixed_Wrap.r2 : List AI := [
  { dst := some 4, op := .mov (.c (.int .i64 (0))) }]
def fixed_Wrap.r3 : List AI := [
  { dst := some 12, op := .mov (.t 1) },
  { dst := some 13, op := .mov (.t 0) },
  { dst := some 14, op := .bin .shl (.c (.int .i64 (1))) (.t 13) },
  { dst := some 15, op := .bin .sub (.t 14) (.c (.int .i64 (1))) },
  { dst := some 16, op := .bin .and (.t 12) (.t 15) },
  { dst := some 5, op := .mov (.t 16) }]
def fixed_Wrap.r4 : List AI := [
  { dst := some 17, op := .mov (.t 5) },
  { dst := some 18, op := .mov (.t 0) },
  { dst := some 19, op := .bin .sub (.t 18) (.c (.int .i64 (1))) },
  { dst := some 20, op := .bin .shl (.c (.int .i64 (1))) (.t 19) },
  { dst := some 21, op := .bin .geq (.t 17) (.t 20) }]
def fixed_Wrap.r5 : List AI := [
  { dst := some 22, op := .mov (.t 5) },
  { dst := some 23, op := .mov (.t 0) },
  { dst := some 24, op := .bin .shl (.c (.int .i64 (1))) (.t 23) },
  { dst := some 25, op := .bin .sub (.t 22) (.t 24) },
  { dst := some 5, op := .mov (.t 25) }]
def fixed_Wrap.r6 : List AI := [
  { dst := some 26, op := .mov (.t 5) },
  { dst := some 4, op := .mov (.t 26) }]
def fixed_Wrap.c : ACode := (.seq (.dr (.ops fixed_Wrap.r0 false) [4] []) (.seq (.seq (.dr (.ops fixed_Wrap.r1 false) [6, 7, 8, 9, 10] []) (.cond (.t 11) (.seq (.dr (.ops fixed_Wrap.r2 false) [0, 1, 11] []) .ret) .skip)) (.seq (.dr (.ops fixed_Wrap.r3 false) [1, 11, 12, 13, 14, 15, 16] []) (.seq (.seq (.dr (.ops fixed_Wrap.r4 false) [17, 18, 19, 20] []) (.cond (.t 21) (.dr (.ops fixed_Wrap.r5 false) [0, 21, 22, 23, 24, 25] []) .skip)) (.seq (.dr (.ops fixed_Wrap.r6 false) [0, 5, 21, 26] []) .ret)))))
def fixed_Wrap : AFn := ⟨2, fixed_Wrap.c, [.tmp 4]⟩

/-! fixed_Saturate -/
def fixed_Saturate.r0 : List AI := [
  { dst := some 2, op := .box 2 (.t 0) },
  { dst := some 4, op := .mov (.c (.int .i64 (0))) }]
def fixed_Saturate.r1 : List AI := [
  { dst := some 5, op := .mov (.t 1) },
  { dst := some 6, op := .ld true 4 (.t 2) },
  { dst := some 7, op := .call 3 [(.t 6)] },
  { dst := some 8, op := .mm true [(.t 5), (.t 7)] },
  { dst := some 9, op := .ld true 4 (.t 2) },
  { dst := some 10, op := .call 4 [(.t 9)] },
  { dst := some 11, op := .mm false [(.t 8), (.t 10)] },
  { dst := some 4, op := .mov (.t 11) }]
def fixed_Saturate.c : ACode := (.seq (.dr (.ops fixed_Saturate.r0 false) [0, 4] []) (.seq (.dr (.ops fixed_Saturate.r1 true) [1, 2, 5, 6, 7, 8, 9, 10, 11] []) .ret))
def fixed_Saturate : AFn := ⟨2, fixed_Saturate.c, [.tmp 4]⟩

/-! fixed_Reduce -/
def fixed_Reduce.r0 : List AI := [
  { dst := some 2, op := .box 2 (.t 0) },
  { dst := some 4, op := .mov (.c (.int .i64 (0))) }]
def fixed_Reduce.r1 : List AI := [
  { dst := some 5, op := .ld true 4 (.t 2) },
  { dst := some 6, op := .call 2 [(.t 5)] },
  { dst := some 7, op := .un .not (.t 6) }]
def fixed_Reduce.r2 : List AI := [
  { dst := some 4, op := .mov (.c (.int .i64 (0))) }]
def fixed_Reduce.r3 : List AI := [
  { dst := some 8, op := .fadr (.t 2) 3 },
  { dst := some 9, op := .ld false 1 (.t 8) },
  { dst := some 10, op := .bin .eql (.t 9) (.c (.int .i64 (2))) }]
def fixed_Reduce.r4 : List AI := [
  { dst := some 11, op := .fadr (.t 2) 0 },
  { dst := some 12, op := .ld false 1 (.t 11) },
  { dst := some 13, op := .mov (.t 1) },
  { dst := some 14, op := .call 7 [(.t 12), (.t 13)] },
  { dst := some 4, op := .mov (.t 14) }]
def fixed_Reduce.r5 : List AI := [
  { dst := some 15, op := .ld true 4 (.t 2) },
  { dst := some 16, op := .mov (.t 1) },
  { dst := some 17, op := .call 8 [(.t 15), (.t 16)] },
  { dst := some 4, op := .mov (.t 17) }]
def fixed_Reduce.c : ACode := (.seq (.dr (.ops fixed_Reduce.r0 false) [0, 4] []) (.seq (.seq (.dr (.ops fixed_Reduce.r1 false) [5, 6] []) (.cond (.t 7) (.seq (.dr (.ops fixed_Reduce.r2 false) [1, 2, 7] []) .ret) .skip)) (.seq (.seq (.dr (.ops fixed_Reduce.r3 false) [7, 8, 9] []) (.cond (.t 10) (.seq (.dr (.ops fixed_Reduce.r4 false) [1, 2, 10, 11, 12, 13, 14] []) .ret) .skip)) (.seq (.dr (.ops fixed_Reduce.r5 false) [1, 2, 10, 15, 16, 17] []) .ret))))
def fixed_Reduce : AFn := ⟨2, fixed_Reduce.c, [.tmp 4]⟩

/-! ref21_In -/
def ref21_In.r0 : List AI := [
  { dst := some 6, op := .mov (.c (.bool false)) }]
def ref21_In.r1 : List AI := [
  { dst := some 7, op := .mov (.t 0) },
  { dst := some 8, op := .mov (.t 1) },
  { dst := some 9, op := .bin .geq (.t 7) (.t 8) },
  { dst := some 10, op := .mov (.t 9) },
  { dst := some 11, op := .mov (.t 0), guard := some (10, true) },
  { dst := some 12, op := .mov (.t 2), guard := some (10, true) },
  { dst := some 13, op := .bin .leq (.t 11) (.t 12), guard := some (10, true) },
  { dst := some 14, op := .pick (.t 10) (.t 13) (.c (.bool false)) },
  { dst := some 6, op := .mov (.t 14) }]
def ref21_In.c : ACode := (.seq (.dr (.ops ref21_In.r0 false) [6] []) (.seq (.dr (.ops ref21_In.r1 false) [0, 1, 2, 7, 8, 9, 10, 11, 12, 13, 14] []) .ret))
def ref21_In : AFn := ⟨3, ref21_In.c, [.tmp 6]⟩

/-! ref21_Valid -/
def ref21_Valid.r0 : List AI := [
  { dst := some 1, op := .box 1 (.t 0) },
  { dst := some 2, op := .mov (.c (.bool false)) }]
def ref21_Valid.r1 : List AI := [
  { dst := some 3, op := .fadr (.t 1) 0 },
  { dst := some 4, op := .ld false 1 (.t 3) },
  { dst := some 5, op := .call 10 [(.t 4), (.c (.int .i64 (4))), (.c (.int .i64 (24)))] },
  { dst := some 6, op := .mov (.t 5) },
  { dst := some 7, op := .fadr (.t 1) 1, guard := some (6, true) },
  { dst := some 8, op := .ld false 1 (.t 7), guard := some (6, true) },
  { dst := some 9, op := .fadr (.t 1) 0, guard := some (6, true) },
  { dst := some 10, op := .ld false 1 (.t 9), guard := some (6, true) },
  { dst := some 11, op := .bin .sub (.t 10) (.c (.int .i64 (1))), guard := some (6, true) },
  { dst := some 12, op := .call 10 [(.t 8), (.c (.int .i64 (0))), (.t 11)], guard := some (6, true) },
  { dst := some 13, op := .pick (.t 6) (.t 12) (.c (.bool false)) },
  { dst := some 14, op := .mov (.t 13) },
  { dst := some 15, op := .fadr (.t 1) 2, guard := some (14, true) },
  { dst := some 16, op := .ld false 1 (.t 15), guard := some (14, true) },
  { dst := some 17, op := .call 10 [(.t 16), (.c (.int .i64 (1))), (.c (.int .i64 (3)))], guard := some (14, true) },
  { dst := some 18, op := .pick (.t 14) (.t 17) (.c (.bool false)) },
  { dst := some 19, op := .mov (.t 18) },
  { dst := some 20, op := .fadr (.t 1) 3, guard := some (19, true) },
  { dst := some 21, op := .ld false 1 (.t 20), guard := some (19, true) },
  { dst := some 22, op := .call 10 [(.t 21), (.c (.int .i64 (1))), (.c (.int .i64 (2)))], guard := some (19, true) },
  { dst := some 23, op := .pick (.t 19) (.t 22) (.c (.bool false)) },
  { dst := some 2, op := .mov (.t 23) }]
def ref21_Valid.c : ACode := (.seq (.dr (.ops ref21_Valid.r0 false) [0, 2] []) (.seq (.dr (.ops ref21_Valid.r1 false) [1, 3, 4, 5, 6, 7, 8, 9, 10, 11, 12, 13, 14, 15, 16, 17, 18, 19, 20, 21, 22, 23] []) .ret))
def ref21_Valid : AFn := ⟨1, ref21_Valid.c, [.tmp 2]⟩

/-! ref21_Low -/
def ref21_Low.r0 : List AI := [
  { dst := some 1, op := .box 1 (.t 0) },
  { dst := some 2, op := .mov (.c (.int .i64 (0))) }]
def ref21_Low.r1 : List AI := [
  { dst := some 3, op := .ld true 4 (.t 1) },
  { dst := some 4, op := .call 11 [(.t 3)] },
  { dst := some 5, op := .un .not (.t 4) }]
def ref21_Low.r2 : List AI := [
  { dst := some 2, op := .mov (.c (.int .i64 (0))) }]
def ref21_Low.r3 : List AI := [
  { dst := some 6, op := .fadr (.t 1) 0 },
  { dst := some 7, op := .ld false 1 (.t 6) },
  { dst := some 8, op := .bin .sub (.t 7) (.c (.int .i64 (1))) },
  { dst := some 9, op := .conv .u64 (.t 8) },
  { dst := some 10, op := .bin .shl (.c (.int .i64 (1))) (.t 9) },
  { dst := some 11, op := .un .neg (.t 10) },
  { dst := some 2, op := .mov (.t 11) }]
def ref21_Low.c : ACode := (.seq (.dr (.ops ref21_Low.r0 false) [0, 2] []) (.seq (.seq (.dr (.ops ref21_Low.r1 false) [3, 4] []) (.cond (.t 5) (.seq (.dr (.ops ref21_Low.r2 false) [1, 5] []) .ret) .skip)) (.seq (.dr (.ops ref21_Low.r3 false) [1, 5, 6, 7, 8, 9, 10, 11] []) .ret)))
def ref21_Low : AFn := ⟨1, ref21_Low.c, [.tmp 2]⟩

/-! ref21_High -/
def ref21_High.r0 : List AI := [
  { dst := some 1, op := .box 1 (.t 0) },
  { dst := some 2, op := .mov (.c (.int .i64 (0))) }]
def ref21_High.r1 : List AI := [
  { dst := some 3, op := .ld true 4 (.t 1) },
  { dst := some 4, op := .call 11 [(.t 3)] },
  { dst := some 5, op := .un .not (.t 4) }]
def ref21_High.r2 : List AI := [
  { dst := some 2, op := .mov (.c (.int .i64 (0))) }]
def ref21_High.r3 : List AI := [
  { dst := some 6, op := .fadr (.t 1) 0 },
  { dst := some 7, op := .ld false 1 (.t 6) },
  { dst := some 8, op := .bin .sub (.t 7) (.c (.int .i64 (1))) },
  { dst := some 9, op := .conv .u64 (.t 8) },
  { dst := some 10, op := .bin .shl (.c (.int .i64 (1))) (.t 9) },
  { dst := some 11, op := .bin .sub (.t 10) (.c (.int .i64 (1))) },
  { dst := some 2, op := .mov (.t 11) }]
def ref21_High.c : ACode := (.seq (.dr (.ops ref21_High.r0 false) [0, 2] []) (.seq (.seq (.dr (.ops ref21_High.r1 false) [3, 4] []) (.cond (.t 5) (.seq (.dr (.ops ref21_High.r2 false) [1, 5] []) .ret) .skip)) (.seq (.dr (.ops ref21_High.r3 false) [1, 5, 6, 7, 8, 9, 10, 11] []) .ret)))
def ref21_High : AFn := ⟨1, ref21_High.c, [.tmp 2]⟩

/-! ref21_Fits -/
def ref21_Fits.r0 : List AI := [
  { dst := some 2, op := .box 2 (.t 0) },
  { dst := some 4, op := .mov (.c (.bool false)) }]
def ref21_Fits.r1 : List AI := [
  { dst := some 5, op := .ld true 4 (.t 2) },
  { dst := some 6, op := .call 11 [(.t 5)] },
  { dst := some 7, op := .mov (.t 6) },
  { dst := some 8, op := .mov (.t 1), guard := some (7, true) },
  { dst := some 9, op := .ld true 4 (.t 2), guard := some (7, true) },
  { dst := some 10, op := .call 12 [(.t 9)], guard := some (7, true) },
  { dst := some 11, op := .ld true 4 (.t 2), guard := some (7, true) },
  { dst := some 12, op := .call 13 [(.t 11)], guard := some (7, true) },
  { dst := some 13, op := .call 10 [(.t 8), (.t 10), (.t 12)], guard := some (7, true) },
  { dst := some 14, op := .pick (.t 7) (.t 13) (.c (.bool false)) },
  { dst := some 4, op := .mov (.t 14) }]
def ref21_Fits.c : ACode := (.seq (.dr (.ops ref21_Fits.r0 false) [0, 4] []) (.seq (.dr (.ops ref21_Fits.r1 true) [1, 2, 5, 6, 7, 8, 9, 10, 11, 12, 13, 14] []) .ret))
def ref21_Fits : AFn := ⟨2, ref21_Fits.c, [.tmp 4]⟩

/-! ref21_Wrap -/
def ref21_Wrap.r0 : List AI := [
  { dst := some 4, op := .mov (.c (.int .i64 (0))) }]
def ref21_Wrap.r1 : List AI := [
  { dst := some 7, op := .mov (.t 0) },
  { dst := some 8, op := .call 10 [(.t 7), (.c (.int .i64 (1))), (.c (.int .i64 (62)))] },
  { dst := some 9, op := .un .not (.t 8) }]
def ref21_Wrap.r2 : List AI := [
  { dst := some 4, op := .mov (.c (.int .i64 (0))) }]
def ref21_Wrap.r3 : List AI := [
  { dst := some 10, op := .mov (.t 0) },
  { dst := some 11, op := .conv .u64 (.t 10) },
  { dst := some 12, op := .bin .shl (.c (.int .i64 (1))) (.t 11) },
  { dst := some 5, op := .mov (.t 12) }]
def ref21_Wrap.r4 : List AI := [
  { dst := some 13, op := .mov (.t 1) },
  { dst := some 14, op := .mov (.t 5) },
  { dst := some 15, op := .bin .rem (.t 13) (.t 14) },
  { dst := some 6, op := .mov (.t 15) }]
def ref21_Wrap.r5 : List AI := [
  { dst := some 16, op := .mov (.t 6) },
  { dst := some 17, op := .bin .lss (.t 16) (.c (.int .i64 (0))) }]
def ref21_Wrap.r6 : List AI := [
  { dst := some 18, op := .mov (.t 6) },
  { dst := some 19, op := .mov (.t 5) },
  { dst := some 20, op := .bin .add (.t 18) (.t 19) },
  { dst := some 6, op := .mov (.t 20) }]
def ref21_Wrap.r7 : List AI := [
  { dst := some 21, op := .mov (.t 6) },
  { dst := some 22, op := .mov (.t 5) },
  { dst := some 23, op := .bin .quo (.t 22) (.c (.int .i64 (2))) },
  { dst := some 24, op := .bin .geq (.t 21) (.t 23) }]
def ref21_Wrap.r8 : List AI := [
  { dst := some 25, op := .mov (.t 6) },
  { dst := some 26, op := .mov (.t 5) },
  { dst := some 27, op := .bin .sub (.t 25) (.t 26) },
  { dst := some 6, op := .mov (.t 27) }]
def ref21_Wrap.r9 : List AI := [
  { dst := some 28, op := .mov (.t 6) },
  { dst := some 4, op := .mov (.t 28) }]
def ref21_Wrap.c : ACode := (.seq (.dr (.ops ref21_Wrap.r0 false) [4] []) (.seq (.seq (.dr (.ops ref21_Wrap.r1 false) [7, 8] []) (.cond (.t 9) (.seq (.dr (.ops ref21_Wrap.r2 false) [0, 1, 9] []) .ret) .skip)) (.seq (.dr (.ops ref21_Wrap.r3 false) [0, 9, 10, 11, 12] []) (.seq (.dr (.ops ref21_Wrap.r4 false) [1, 13, 14, 15] []) (.seq (.seq (.dr (.ops ref21_Wrap.r5 false) [16] []) (.cond (.t 17) (.dr (.ops ref21_Wrap.r6 false) [17, 18, 19, 20] []) .skip)) (.seq (.seq (.dr (.ops ref21_Wrap.r7 false) [17, 21, 22, 23] []) (.cond (.t 24) (.dr (.ops ref21_Wrap.r8 false) [5, 24, 25, 26, 27] []) .skip)) (.seq (.dr (.ops ref21_Wrap.r9 false) [5, 6, 24, 28] []) .ret)))))))
def ref21_Wrap : AFn := ⟨2, ref21_Wrap.c, [.tmp 4]⟩

/-! ref21_Saturate -/
def ref21_Saturate.r0 : List AI := [
  { dst := some 2, op := .box 2 (.t 0) },
  { dst := some 4, op := .mov (.c (.int .i64 (0))) }]
def ref21_Saturate.r1 : List AI := [
  { dst := some 5, op := .mov (.t 1) },
  { dst := some 6, op := .ld true 4 (.t 2) },
  { dst := some 7, op := .call 12 [(.t 6)] },
  { dst := some 8, op := .mm true [(.t 5), (.t 7)] },
  { dst := some 9, op := .ld true 4 (.t 2) },
  { dst := some 10, op := .call 13 [(.t 9)] },
  { dst := some 11, op := .mm false [(.t 8), (.t 10)] },
  { dst := some 4, op := .mov (.t 11) }]
def ref21_Saturate.c : ACode := (.seq (.dr (.ops ref21_Saturate.r0 false) [0, 4] []) (.seq (.dr (.ops ref21_Saturate.r1 true) [1, 2, 5, 6, 7, 8, 9, 10, 11] []) .ret))
def ref21_Saturate : AFn := ⟨2, ref21_Saturate.c, [.tmp 4]⟩

/-! ref21_Reduce -/
def ref21_Reduce.r0 : List AI := [
  { dst := some 2, op := .box 2 (.t 0) },
  { dst := some 4, op := .mov (.c (.int .i64 (0))) }]
def ref21_Reduce.r1 : List AI := [
  { dst := some 5, op := .ld true 4 (.t 2) },
  { dst := some 6, op := .call 11 [(.t 5)] },
  { dst := some 7, op := .un .not (.t 6) }]
def ref21_Reduce.r2 : List AI := [
  { dst := some 4, op := .mov (.c (.int .i64 (0))) }]
def ref21_Reduce.r3 : List AI := [
  { dst := some 8, op := .fadr (.t 2) 3 },
  { dst := some 9, op := .ld false 1 (.t 8) },
  { dst := some 10, op := .bin .eql (.t 9) (.c (.int .i64 (2))) }]
def ref21_Reduce.r4 : List AI := [
  { dst := some 11, op := .fadr (.t 2) 0 },
  { dst := some 12, op := .ld false 1 (.t 11) },
  { dst := some 13, op := .mov (.t 1) },
  { dst := some 14, op := .call 15 [(.t 12), (.t 13)] },
  { dst := some 4, op := .mov (.t 14) }]
def ref21_Reduce.r5 : List AI := [
  { dst := some 15, op := .ld true 4 (.t 2) },
  { dst := some 16, op := .mov (.t 1) },
  { dst := some 17, op := .call 16 [(.t 15), (.t 16)] },
  { dst := some 4, op := .mov (.t 17) }]
def ref21_Reduce.c : ACode := (.seq (.dr (.ops ref21_Reduce.r0 false) [0, 4] []) (.seq (.seq (.dr (.ops ref21_Reduce.r1 false) [5, 6] []) (.cond (.t 7) (.seq (.dr (.ops ref21_Reduce.r2 false) [1, 2, 7] []) .ret) .skip)) (.seq (.seq (.dr (.ops ref21_Reduce.r3 false) [7, 8, 9] []) (.cond (.t 10) (.seq (.dr (.ops ref21_Reduce.r4 false) [1, 2, 10, 11, 12, 13, 14] []) .ret) .skip)) (.seq (.dr (.ops ref21_Reduce.r5 false) [1, 2, 10, 15, 16, 17] []) .ret))))
def ref21_Reduce : AFn := ⟨2, ref21_Reduce.c, [.tmp 4]⟩

/-! ref21_Shift -/
def ref21_Shift.r0 : List AI := [
  { dst := some 6, op := .mov (.c (.int .i64 (0))) }]
def ref21_Shift.r1 : List AI := [
  { dst := some 10, op := .mov (.t 1) },
  { dst := some 11, op := .call 10 [(.t 10), (.c (.int .i64 (0))), (.c (.int .i64 (62)))] },
  { dst := some 12, op := .un .not (.t 11) },
  { dst := some 13, op := .mov (.t 12) },
  { dst := some 14, op := .mov (.t 2), guard := some (13, false) },
  { dst := some 15, op := .call 10 [(.t 14), (.c (.int .i64 (1))), (.c (.int .i64 (3)))], guard := some (13, false) },
  { dst := some 16, op := .un .not (.t 15), guard := some (13, false) },
  { dst := some 17, op := .pick (.t 13) (.c (.bool true)) (.t 16) }]
def ref21_Shift.r2 : List AI := [
  { dst := some 6, op := .mov (.c (.int .i64 (0))) }]
def ref21_Shift.r3 : List AI := [
  { dst := some 18, op := .mov (.t 1) },
  { dst := some 19, op := .conv .u64 (.t 18) },
  { dst := some 20, op := .bin .shl (.c (.int .i64 (1))) (.t 19) },
  { dst := some 7, op := .mov (.t 20) }]
def ref21_Shift.r4 : List AI := [
  { dst := some 21, op := .mov (.t 0) },
  { dst := some 22, op := .mov (.t 7) },
  { dst := some 23, op := .bin .quo (.t 21) (.t 22) },
  { dst := some 24, op := .mov (.t 0) },
  { dst := some 25, op := .mov (.t 7) },
  { dst := some 26, op := .bin .rem (.t 24) (.t 25) },
  { dst := some 8, op := .mov (.t 23) },
  { dst := some 9, op := .mov (.t 26) }]
def ref21_Shift.r5 : List AI := [
  { dst := some 27, op := .mov (.t 9) },
  { dst := some 28, op := .bin .lss (.t 27) (.c (.int .i64 (0))) }]
def ref21_Shift.r6 : List AI := [
  { dst := some 29, op := .mov (.t 8) },
  { dst := some 30, op := .bin .sub (.t 29) (.c (.int .i64 (1))) },
  { dst := some 31, op := .mov (.t 9) },
  { dst := some 32, op := .mov (.t 7) },
  { dst := some 33, op := .bin .add (.t 31) (.t 32) },
  { dst := some 8, op := .mov (.t 30) },
  { dst := some 9, op := .mov (.t 33) }]
def ref21_Shift.r7 : List AI := [
  { dst := some 34, op := .mov (.t 2) },
  { dst := some 35, op := .bin .eql (.t 34) (.c (.int .i64 (2))) },
  { dst := some 36, op := .mov (.t 35) },
  { dst := some 37, op := .mov (.t 9), guard := some (36, true) },
  { dst := some 38, op := .mov (.t 7), guard := some (36, true) },
  { dst := some 39, op := .bin .sub (.t 38) (.c (.int .i64 (1))), guard := some (36, true) },
  { dst := some 40, op := .mov (.t 9), guard := some (36, true) },
  { dst := some 41, op := .bin .sub (.t 39) (.t 40), guard := some (36, true) },
  { dst := some 42, op := .bin .gtr (.t 37) (.t 41), guard := some (36, true) },
  { dst := some 43, op := .pick (.t 36) (.t 42) (.c (.bool false)) },
  { dst := some 44, op := .mov (.t 43) },
  { dst := some 45, op := .mov (.t 1), guard := some (44, true) },
  { dst := some 46, op := .bin .gtr (.t 45) (.c (.int .i64 (0))), guard := some (44, true) },
  { dst := some 47, op := .pick (.t 44) (.t 46) (.c (.bool false)) }]
def ref21_Shift.r8 : List AI := [
  { dst := some 48, op := .mov (.t 8) },
  { dst := some 49, op := .bin .add (.t 48) (.c (.int .i64 (1))) },
  { dst := some 8, op := .mov (.t 49) }]
def ref21_Shift.r9 : List AI := [
  { dst := some 50, op := .mov (.t 2) },
  { dst := some 51, op := .bin .eql (.t 50) (.c (.int .i64 (3))) },
  { dst := some 52, op := .mov (.t 51) },
  { dst := some 53, op := .mov (.t 0), guard := some (52, true) },
  { dst := some 54, op := .bin .lss (.t 53) (.c (.int .i64 (0))), guard := some (52, true) },
  { dst := some 55, op := .pick (.t 52) (.t 54) (.c (.bool false)) },
  { dst := some 56, op := .mov (.t 55) },
  { dst := some 57, op := .mov (.t 9), guard := some (56, true) },
  { dst := some 58, op := .bin .gtr (.t 57) (.c (.int .i64 (0))), guard := some (56, true) },
  { dst := some 59, op := .pick (.t 56) (.t 58) (.c (.bool false)) }]
def ref21_Shift.r10 : List AI := [
  { dst := some 60, op := .mov (.t 8) },
  { dst := some 61, op := .bin .add (.t 60) (.c (.int .i64 (1))) },
  { dst := some 8, op := .mov (.t 61) }]
def ref21_Shift.r11 : List AI := [
  { dst := some 62, op := .mov (.t 8) },
  { dst := some 6, op := .mov (.t 62) }]
def ref21_Shift.c : ACode := (.seq (.dr (.ops ref21_Shift.r0 false) [6] []) (.seq (.seq (.dr (.ops ref21_Shift.r1 false) [10, 11, 12, 13, 14, 15, 16] []) (.cond (.t 17) (.seq (.dr (.ops ref21_Shift.r2 false) [0, 1, 2, 17] []) .ret) .skip)) (.seq (.dr (.ops ref21_Shift.r3 false) [17, 18, 19, 20] []) (.seq (.dr (.ops ref21_Shift.r4 true) [21, 22, 23, 24, 25, 26] []) (.seq (.seq (.dr (.ops ref21_Shift.r5 false) [27] []) (.cond (.t 28) (.dr (.ops ref21_Shift.r6 false) [28, 29, 30, 31, 32, 33] []) .skip)) (.seq (.seq (.dr (.ops ref21_Shift.r7 false) [1, 7, 28, 34, 35, 36, 37, 38, 39, 40, 41, 42, 43, 44, 45, 46] []) (.cond (.t 47) (.dr (.ops ref21_Shift.r8 false) [47, 48, 49] []) .skip)) (.seq (.seq (.dr (.ops ref21_Shift.r9 false) [0, 2, 9, 47, 50, 51, 52, 53, 54, 55, 56, 57, 58] []) (.cond (.t 59) (.dr (.ops ref21_Shift.r10 false) [59, 60, 61] []) .skip)) (.seq (.dr (.ops ref21_Shift.r11 false) [8, 59, 62] []) .ret))))))))
def ref21_Shift : AFn := ⟨3, ref21_Shift.c, [.tmp 6]⟩

/-! ref21_Words -/
def ref21_Words.r0 : List AI := [
  { dst := some 2, op := .box 2 (.t 0) },
  { dst := some 4, op := .mov (.c (.bool false)) }]
def ref21_Words.r1 : List AI := [
  { dst := some 5, op := .mov (.c (.int .i64 (0))) }]
def ref21_Words.r2 : List AI := [
  { dst := some 6, op := .mov (.t 5) },
  { dst := some 7, op := .mov (.t 1) },
  { dst := some 8, op := .len (.t 7) },
  { dst := some 9, op := .bin .lss (.t 6) (.t 8) }]
def ref21_Words.r4 : List AI := [
  { dst := some 12, op := .ld true 4 (.t 2) },
  { dst := some 13, op := .mov (.t 1) },
  { dst := some 14, op := .mov (.t 5) },
  { dst := some 15, op := .iadr none 1 (.t 13) (.t 14) },
  { dst := some 16, op := .ld false 1 (.t 15) },
  { dst := some 17, op := .call 14 [(.t 12), (.t 16)] },
  { dst := some 18, op := .un .not (.t 17) }]
def ref21_Words.r5 : List AI := [
  { dst := some 4, op := .mov (.c (.bool false)) }]
def ref21_Words.r3 : List AI := [
  { dst := some 10, op := .mov (.t 5) },
  { dst := some 11, op := .bin .add (.t 10) (.c (.int .i64 (1))) },
  { dst := some 5, op := .mov (.t 11) }]
def ref21_Words.r6 : List AI := [
  { dst := some 4, op := .mov (.c (.bool true)) }]
def ref21_Words.l1 : ACode := (.seq (.seq (.dr (.ops ref21_Words.r2 false) [6, 7, 8] []) (.cond (.t 9) .skip (.exit 0))) (.seq (.block 1 (.seq (.dr (.ops ref21_Words.r4 true) [9, 12, 13, 14, 15, 16, 17] []) (.cond (.t 18) (.seq (.dr (.ops ref21_Words.r5 false) [1, 2, 5, 18] []) .ret) .skip))) (.dr (.ops ref21_Words.r3 false) [10, 11, 18] [])))
def ref21_Words.c : ACode := (.seq (.dr (.ops ref21_Words.r0 false) [0, 4] []) (.seq (.seq (.ops ref21_Words.r1 false) (.block 0 (.loop ref21_Words.l1))) (.seq (.dr (.ops ref21_Words.r6 false) [1, 2, 5, 9] []) .ret)))
def ref21_Words : AFn := ⟨2, ref21_Words.c, [.tmp 4]⟩

/-! ref21_SameInts -/
def ref21_SameInts.r0 : List AI := [
  { dst := some 4, op := .mov (.c (.bool false)) }]
def ref21_SameInts.r1 : List AI := [
  { dst := some 6, op := .mov (.t 0) },
  { dst := some 7, op := .len (.t 6) },
  { dst := some 8, op := .mov (.t 1) },
  { dst := some 9, op := .len (.t 8) },
  { dst := some 10, op := .bin .neq (.t 7) (.t 9) }]
def ref21_SameInts.r2 : List AI := [
  { dst := some 4, op := .mov (.c (.bool false)) }]
def ref21_SameInts.r3 : List AI := [
  { dst := some 5, op := .mov (.c (.int .i64 (0))) }]
def ref21_SameInts.r4 : List AI := [
  { dst := some 11, op := .mov (.t 5) },
  { dst := some 12, op := .mov (.t 0) },
  { dst := some 13, op := .len (.t 12) },
  { dst := some 14, op := .bin .lss (.t 11) (.t 13) }]
def ref21_SameInts.r6 : List AI := [
  { dst := some 17, op := .mov (.t 0) },
  { dst := some 18, op := .mov (.t 5) },
  { dst := some 19, op := .iadr none 1 (.t 17) (.t 18) },
  { dst := some 20, op := .ld false 1 (.t 19) },
  { dst := some 21, op := .mov (.t 1) },
  { dst := some 22, op := .mov (.t 5) },
  { dst := some 23, op := .iadr none 1 (.t 21) (.t 22) },
  { dst := some 24, op := .ld false 1 (.t 23) },
  { dst := some 25, op := .bin .neq (.t 20) (.t 24) }]
def ref21_SameInts.r7 : List AI := [
  { dst := some 4, op := .mov (.c (.bool false)) }]
def ref21_SameInts.r5 : List AI := [
  { dst := some 15, op := .mov (.t 5) },
  { dst := some 16, op := .bin .add (.t 15) (.c (.int .i64 (1))) },
  { dst := some 5, op := .mov (.t 16) }]
def ref21_SameInts.r8 : List AI := [
  { dst := some 4, op := .mov (.c (.bool true)) }]
def ref21_SameInts.l1 : ACode := (.seq (.seq (.dr (.ops ref21_SameInts.r4 false) [11, 12, 13] []) (.cond (.t 14) .skip (.exit 0))) (.seq (.block 1 (.seq (.dr (.ops ref21_SameInts.r6 true) [14, 17, 18, 19, 20, 21, 22, 23, 24] []) (.cond (.t 25) (.seq (.dr (.ops ref21_SameInts.r7 false) [0, 1, 5, 25] []) .ret) .skip))) (.dr (.ops ref21_SameInts.r5 false) [15, 16, 25] [])))
def ref21_SameInts.c : ACode := (.seq (.dr (.ops ref21_SameInts.r0 false) [4] []) (.seq (.seq (.dr (.ops ref21_SameInts.r1 false) [6, 7, 8, 9] []) (.cond (.t 10) (.seq (.dr (.ops ref21_SameInts.r2 false) [0, 1, 10] []) .ret) .skip)) (.seq (.seq (.dr (.ops ref21_SameInts.r3 false) [10] []) (.block 0 (.loop ref21_SameInts.l1))) (.seq (.dr (.ops ref21_SameInts.r8 false) [0, 1, 5, 14] []) .ret))))
def ref21_SameInts : AFn := ⟨2, ref21_SameInts.c, [.tmp 4]⟩

/-- a library has these functions -/
structure FixedLib (L : Lib) : Prop where
  fixed_mode : L 1 = some F.fixed_mode
  fixed_Valid : L 2 = some F.fixed_Valid
  fixed_Low : L 3 = some F.fixed_Low
  fixed_High : L 4 = some F.fixed_High
  fixed_Fits : L 5 = some F.fixed_Fits
  fixed_Shift : L 6 = some F.fixed_Shift
  fixed_Wrap : L 7 = some F.fixed_Wrap
  fixed_Saturate : L 8 = some F.fixed_Saturate
  fixed_Reduce : L 9 = some F.fixed_Reduce
  ref21_In : L 10 = some F.ref21_In
  ref21_Valid : L 11 = some F.ref21_Valid
  ref21_Low : L 12 = some F.ref21_Low
  ref21_High : L 13 = some F.ref21_High
  ref21_Fits : L 14 = some F.ref21_Fits
  ref21_Wrap : L 15 = some F.ref21_Wrap
  ref21_Saturate : L 16 = some F.ref21_Saturate
  ref21_Reduce : L 17 = some F.ref21_Reduce
  ref21_Shift : L 18 = some F.ref21_Shift
  ref21_Words : L 19 = some F.ref21_Words
  ref21_SameInts : L 20 = some F.ref21_SameInts
def FixedList : List (Nat × AFn) := [(1, F.fixed_mode), (2, F.fixed_Valid), (3, F.fixed_Low), (4, F.fixed_High), (5, F.fixed_Fits), (6, F.fixed_Shift), (7, F.fixed_Wrap), (8, F.fixed_Saturate), (9, F.fixed_Reduce), (10, F.ref21_In), (11, F.ref21_Valid), (12, F.ref21_Low), (13, F.ref21_High), (14, F.ref21_Fits), (15, F.ref21_Wrap), (16, F.ref21_Saturate), (17, F.ref21_Reduce), (18, F.ref21_Shift), (19, F.ref21_Words), (20, F.ref21_SameInts)]

end Go.Eng.F
