/-
  Functions of the program, as the abstract machine reads them (group Net). Written by a program (gen.py) off the model's own reading of the translation; the seat's check ties them to it.
-/
import Derived.Test.YtlkfmmfmefobnaaEngCore
import Derived.Test.YtlkfmmfmefobnaaEngFixed
set_option linter.unusedSimpArgs false
set_option linter.unusedVariables false
set_option linter.unnecessarySimpa false
namespace Go.Eng.F

/-! network_Valid -/
def network_Valid.r0 : List AI := [
  { dst := some 1, op := .box 1 (.t 0) },
  { dst := some 2, op := .mov (.c (.bool false)) }]
def network_Valid.r1 : List AI := [
  { dst := some 10, op := .fadr (.t 1) 0 },
  { dst := some 11, op := .ld true 4 (.t 10) },
  { dst := some 12, op := .call 2 [(.t 11)] },
  { dst := some 13, op := .un .not (.t 12) },
  { dst := some 14, op := .mov (.t 13) },
  { dst := some 15, op := .fadr (.t 1) 4, guard := some (14, false) },
  { dst := some 16, op := .ld true 4 (.t 15), guard := some (14, false) },
  { dst := some 17, op := .call 2 [(.t 16)], guard := some (14, false) },
  { dst := some 18, op := .un .not (.t 17), guard := some (14, false) },
  { dst := some 19, op := .pick (.t 14) (.c (.bool true)) (.t 18) }]
def network_Valid.r2 : List AI := [
  { dst := some 2, op := .mov (.c (.bool false)) }]
def network_Valid.r3 : List AI := [
  { dst := some 20, op := .fadr (.t 1) 8 },
  { dst := some 21, op := .ld false 1 (.t 20) },
  { dst := some 22, op := .bin .lss (.t 21) (.c (.int .i64 (0))) },
  { dst := some 23, op := .mov (.t 22) },
  { dst := some 24, op := .fadr (.t 1) 8, guard := some (23, false) },
  { dst := some 25, op := .ld false 1 (.t 24), guard := some (23, false) },
  { dst := some 26, op := .bin .gtr (.t 25) (.c (.int .i64 (64))), guard := some (23, false) },
  { dst := some 27, op := .pick (.t 23) (.c (.bool true)) (.t 26) },
  { dst := some 28, op := .mov (.t 27) },
  { dst := some 29, op := .fadr (.t 1) 9, guard := some (28, false) },
  { dst := some 30, op := .ld false 1 (.t 29), guard := some (28, false) },
  { dst := some 31, op := .len (.t 30), guard := some (28, false) },
  { dst := some 32, op := .bin .gtr (.t 31) (.c (.int .i64 (64))), guard := some (28, false) },
  { dst := some 33, op := .pick (.t 28) (.c (.bool true)) (.t 32) },
  { dst := some 34, op := .mov (.t 33) },
  { dst := some 35, op := .fadr (.t 1) 10, guard := some (34, false) },
  { dst := some 36, op := .ld false 1 (.t 35), guard := some (34, false) },
  { dst := some 37, op := .len (.t 36), guard := some (34, false) },
  { dst := some 38, op := .fadr (.t 1) 8, guard := some (34, false) },
  { dst := some 39, op := .ld false 1 (.t 38), guard := some (34, false) },
  { dst := some 40, op := .bin .neq (.t 37) (.t 39), guard := some (34, false) },
  { dst := some 41, op := .pick (.t 34) (.c (.bool true)) (.t 40) }]
def network_Valid.r4 : List AI := [
  { dst := some 2, op := .mov (.c (.bool false)) }]
def network_Valid.r5 : List AI := [
  { dst := some 42, op := .fadr (.t 1) 9 },
  { dst := some 43, op := .ld false 1 (.t 42) },
  { dst := some 44, op := .len (.t 43) },
  { dst := some 45, op := .mov (.c (.int .i64 (0))) }]
def network_Valid.r6 : List AI := [
  { dst := some 46, op := .bin .lss (.t 45) (.t 44) }]
def network_Valid.r7 : List AI := [
  { dst := some 47, op := .mov (.t 45) },
  { dst := some 48, op := .iadr none 1 (.t 43) (.t 45) },
  { dst := some 49, op := .ld true 1 (.t 48) },
  { dst := some 4, op := .alloc 4 [.nil] },
  { dst := some 3, op := .mov (.t 47) },
  { dst := none, op := .st 1 (.t 4) (.t 49) }]
def network_Valid.r8 : List AI := [
  { dst := some 50, op := .fadr (.t 4) 0 },
  { dst := some 51, op := .ld false 1 (.t 50) },
  { dst := some 52, op := .len (.t 51) },
  { dst := some 53, op := .bin .gtr (.t 52) (.c (.int .i64 (64))) }]
def network_Valid.r9 : List AI := [
  { dst := some 2, op := .mov (.c (.bool false)) }]
def network_Valid.r10 : List AI := [
  { dst := some 54, op := .fadr (.t 4) 0 },
  { dst := some 55, op := .ld false 1 (.t 54) },
  { dst := some 56, op := .len (.t 55) },
  { dst := some 57, op := .mov (.c (.int .i64 (0))) }]
def network_Valid.r11 : List AI := [
  { dst := some 58, op := .bin .lss (.t 57) (.t 56) }]
def network_Valid.r12 : List AI := [
  { dst := some 59, op := .iadr none 2 (.t 55) (.t 57) },
  { dst := some 60, op := .ld true 2 (.t 59) },
  { dst := some 6, op := .alloc 6 [(.int .i64 (0)), (.int .i64 (0))] },
  { dst := none, op := .st 2 (.t 6) (.t 60) }]
def network_Valid.r13 : List AI := [
  { dst := some 61, op := .fadr (.t 6) 0 },
  { dst := some 62, op := .ld false 1 (.t 61) },
  { dst := some 63, op := .bin .lss (.t 62) (.c (.int .i64 (0))) },
  { dst := some 64, op := .mov (.t 63) },
  { dst := some 65, op := .fadr (.t 6) 0, guard := some (64, false) },
  { dst := some 66, op := .ld false 1 (.t 65), guard := some (64, false) },
  { dst := some 67, op := .fadr (.t 1) 8, guard := some (64, false) },
  { dst := some 68, op := .ld false 1 (.t 67), guard := some (64, false) },
  { dst := some 69, op := .mov (.t 3), guard := some (64, false) },
  { dst := some 70, op := .bin .add (.t 68) (.t 69), guard := some (64, false) },
  { dst := some 71, op := .bin .gtr (.t 66) (.t 70), guard := some (64, false) },
  { dst := some 72, op := .pick (.t 64) (.c (.bool true)) (.t 71) }]
def network_Valid.r14 : List AI := [
  { dst := some 2, op := .mov (.c (.bool false)) }]
def network_Valid.r15 : List AI := [
  { dst := some 73, op := .fadr (.t 6) 1 },
  { dst := some 74, op := .ld false 1 (.t 73) },
  { dst := some 75, op := .fadr (.t 1) 4 },
  { dst := some 76, op := .fadr (.t 75) 1 },
  { dst := some 77, op := .ld false 1 (.t 76) },
  { dst := some 78, op := .bin .shl (.c (.int .i64 (1))) (.t 77) },
  { dst := some 79, op := .bin .neq (.t 74) (.t 78) },
  { dst := some 80, op := .mov (.t 79) },
  { dst := some 81, op := .fadr (.t 1) 4, guard := some (80, true) },
  { dst := some 82, op := .ld true 4 (.t 81), guard := some (80, true) },
  { dst := some 83, op := .fadr (.t 6) 1, guard := some (80, true) },
  { dst := some 84, op := .ld false 1 (.t 83), guard := some (80, true) },
  { dst := some 85, op := .call 5 [(.t 82), (.t 84)], guard := some (80, true) },
  { dst := some 86, op := .un .not (.t 85), guard := some (80, true) },
  { dst := some 87, op := .pick (.t 80) (.t 86) (.c (.bool false)) }]
def network_Valid.r16 : List AI := [
  { dst := some 2, op := .mov (.c (.bool false)) }]
def network_Valid.r17 : List AI := [
  { dst := some 88, op := .bin .add (.t 57) (.c (.int .i64 (1))) },
  { dst := some 57, op := .mov (.t 88) }]
def network_Valid.r18 : List AI := [
  { dst := some 89, op := .bin .add (.t 45) (.c (.int .i64 (1))) },
  { dst := some 45, op := .mov (.t 89) }]
def network_Valid.r19 : List AI := [
  { dst := some 90, op := .fadr (.t 1) 8 },
  { dst := some 91, op := .ld false 1 (.t 90) },
  { dst := some 92, op := .fadr (.t 1) 9 },
  { dst := some 93, op := .ld false 1 (.t 92) },
  { dst := some 94, op := .len (.t 93) },
  { dst := some 95, op := .bin .add (.t 91) (.t 94) },
  { dst := some 7, op := .mov (.t 95) }]
def network_Valid.r20 : List AI := [
  { dst := some 96, op := .fadr (.t 1) 10 },
  { dst := some 97, op := .ld false 1 (.t 96) },
  { dst := some 98, op := .len (.t 97) },
  { dst := some 99, op := .mov (.c (.int .i64 (0))) }]
def network_Valid.r21 : List AI := [
  { dst := some 100, op := .bin .lss (.t 99) (.t 98) }]
def network_Valid.r22 : List AI := [
  { dst := some 101, op := .iadr none 1 (.t 97) (.t 99) },
  { dst := some 102, op := .ld false 1 (.t 101) },
  { dst := some 9, op := .mov (.t 102) }]
def network_Valid.r23 : List AI := [
  { dst := some 103, op := .mov (.t 9) },
  { dst := some 104, op := .bin .lss (.t 103) (.c (.int .i64 (0))) },
  { dst := some 105, op := .mov (.t 104) },
  { dst := some 106, op := .mov (.t 9), guard := some (105, false) },
  { dst := some 107, op := .mov (.t 7), guard := some (105, false) },
  { dst := some 108, op := .bin .gtr (.t 106) (.t 107), guard := some (105, false) },
  { dst := some 109, op := .pick (.t 105) (.c (.bool true)) (.t 108) }]
def network_Valid.r24 : List AI := [
  { dst := some 2, op := .mov (.c (.bool false)) }]
def network_Valid.r25 : List AI := [
  { dst := some 110, op := .bin .add (.t 99) (.c (.int .i64 (1))) },
  { dst := some 99, op := .mov (.t 110) }]
def network_Valid.r26 : List AI := [
  { dst := some 111, op := .fadr (.t 1) 11 },
  { dst := some 112, op := .ld false 1 (.t 111) },
  { dst := some 113, op := .bin .geq (.t 112) (.c (.int .i64 (0))) },
  { dst := some 114, op := .mov (.t 113) },
  { dst := some 115, op := .fadr (.t 1) 11, guard := some (114, true) },
  { dst := some 116, op := .ld false 1 (.t 115), guard := some (114, true) },
  { dst := some 117, op := .mov (.t 7), guard := some (114, true) },
  { dst := some 118, op := .bin .leq (.t 116) (.t 117), guard := some (114, true) },
  { dst := some 119, op := .pick (.t 114) (.t 118) (.c (.bool false)) },
  { dst := some 2, op := .mov (.t 119) }]
def network_Valid.l2 : ACode := (.seq (.ops network_Valid.r11 false) (.seq (.cond (.t 58) .skip (.exit 2)) (.seq (.block 3 (.seq (.dr (.ops network_Valid.r12 false) [58, 59, 60] []) (.seq (.seq (.dr (.ops network_Valid.r13 false) [61, 62, 63, 64, 65, 66, 67, 68, 69, 70, 71] []) (.cond (.t 72) (.seq (.dr (.ops network_Valid.r14 false) [1, 3, 6, 43, 44, 45, 55, 56, 57, 72] []) .ret) .skip)) (.seq (.dr (.ops network_Valid.r15 true) [6, 72, 73, 74, 75, 76, 77, 78, 79, 80, 81, 82, 83, 84, 85, 86] []) (.cond (.t 87) (.seq (.dr (.ops network_Valid.r16 false) [1, 3, 43, 44, 45, 55, 56, 57, 87] []) .ret) .skip))))) (.dr (.ops network_Valid.r17 false) [87, 88] []))))
def network_Valid.l1 : ACode := (.seq (.ops network_Valid.r6 false) (.seq (.cond (.t 46) .skip (.exit 0)) (.seq (.block 1 (.seq (.dr (.ops network_Valid.r7 false) [46, 47, 48, 49] []) (.seq (.seq (.dr (.ops network_Valid.r8 false) [50, 51, 52] []) (.cond (.t 53) (.seq (.dr (.ops network_Valid.r9 false) [1, 3, 4, 43, 44, 45, 53] []) .ret) .skip)) (.seq (.dr (.ops network_Valid.r10 false) [4, 53, 54] []) (.block 2 (.loop network_Valid.l2)))))) (.dr (.ops network_Valid.r18 false) [3, 55, 56, 57, 58, 89] []))))
def network_Valid.l3 : ACode := (.seq (.ops network_Valid.r21 false) (.seq (.cond (.t 100) .skip (.exit 4)) (.seq (.block 5 (.seq (.dr (.ops network_Valid.r22 false) [100, 101, 102] []) (.seq (.dr (.ops network_Valid.r23 false) [9, 103, 104, 105, 106, 107, 108] []) (.cond (.t 109) (.seq (.dr (.ops network_Valid.r24 false) [1, 7, 97, 98, 99, 109] []) .ret) .skip)))) (.dr (.ops network_Valid.r25 false) [109, 110] []))))
def network_Valid.c : ACode := (.seq (.dr (.ops network_Valid.r0 false) [0, 2] []) (.seq (.seq (.dr (.ops network_Valid.r1 false) [10, 11, 12, 13, 14, 15, 16, 17, 18] []) (.cond (.t 19) (.seq (.dr (.ops network_Valid.r2 false) [1, 19] []) .ret) .skip)) (.seq (.seq (.dr (.ops network_Valid.r3 false) [19, 20, 21, 22, 23, 24, 25, 26, 27, 28, 29, 30, 31, 32, 33, 34, 35, 36, 37, 38, 39, 40] []) (.cond (.t 41) (.seq (.dr (.ops network_Valid.r4 false) [1, 41] []) .ret) .skip)) (.seq (.seq (.dr (.ops network_Valid.r5 false) [41, 42] []) (.block 0 (.loop network_Valid.l1))) (.seq (.dr (.ops network_Valid.r19 false) [43, 44, 45, 46, 90, 91, 92, 93, 94, 95] []) (.seq (.seq (.dr (.ops network_Valid.r20 false) [96] []) (.block 4 (.loop network_Valid.l3))) (.seq (.dr (.ops network_Valid.r26 false) [1, 7, 97, 98, 99, 100, 111, 112, 113, 114, 115, 116, 117, 118, 119] []) .ret)))))))
def network_Valid : AFn := ⟨1, network_Valid.c, [.tmp 2]⟩

/-! network_wrong -/
def network_wrong.r0 : List AI := [
  { dst := some 3, op := .box 3 (.t 0) },
  { dst := some 6, op := .mov (.c (.int .i64 (0))) }]
def network_wrong.r1 : List AI := [
  { dst := some 11, op := .mov (.t 1) },
  { dst := some 12, op := .len (.t 11) },
  { dst := some 13, op := .fadr (.t 3) 8 },
  { dst := some 14, op := .ld false 1 (.t 13) },
  { dst := some 15, op := .bin .neq (.t 12) (.t 14) }]
def network_wrong.r2 : List AI := [
  { dst := some 6, op := .mov (.c (.int .i64 (1))) }]
def network_wrong.r3 : List AI := [
  { dst := some 16, op := .mov (.t 1) },
  { dst := some 17, op := .len (.t 16) },
  { dst := some 18, op := .mov (.c (.int .i64 (0))) }]
def network_wrong.r4 : List AI := [
  { dst := some 19, op := .bin .lss (.t 18) (.t 17) }]
def network_wrong.r5 : List AI := [
  { dst := some 20, op := .iadr none 1 (.t 16) (.t 18) },
  { dst := some 21, op := .ld false 1 (.t 20) },
  { dst := some 8, op := .mov (.t 21) }]
def network_wrong.r6 : List AI := [
  { dst := some 22, op := .fadr (.t 3) 0 },
  { dst := some 23, op := .ld true 4 (.t 22) },
  { dst := some 24, op := .mov (.t 8) },
  { dst := some 25, op := .call 5 [(.t 23), (.t 24)] },
  { dst := some 26, op := .un .not (.t 25) }]
def network_wrong.r7 : List AI := [
  { dst := some 6, op := .mov (.c (.int .i64 (17))) }]
def network_wrong.r8 : List AI := [
  { dst := some 27, op := .bin .add (.t 18) (.c (.int .i64 (1))) },
  { dst := some 18, op := .mov (.t 27) }]
def network_wrong.r9 : List AI := [
  { dst := some 28, op := .mov (.t 2) },
  { dst := some 29, op := .len (.t 28) },
  { dst := some 30, op := .mov (.c (.int .i64 (0))) }]
def network_wrong.r10 : List AI := [
  { dst := some 31, op := .bin .lss (.t 30) (.t 29) }]
def network_wrong.r11 : List AI := [
  { dst := some 32, op := .iadr none 1 (.t 28) (.t 30) },
  { dst := some 33, op := .ld false 1 (.t 32) },
  { dst := some 10, op := .mov (.t 33) }]
def network_wrong.r12 : List AI := [
  { dst := some 34, op := .fadr (.t 3) 0 },
  { dst := some 35, op := .ld true 4 (.t 34) },
  { dst := some 36, op := .mov (.t 10) },
  { dst := some 37, op := .call 5 [(.t 35), (.t 36)] },
  { dst := some 38, op := .un .not (.t 37) }]
def network_wrong.r13 : List AI := [
  { dst := some 6, op := .mov (.c (.int .i64 (17))) }]
def network_wrong.r14 : List AI := [
  { dst := some 39, op := .bin .add (.t 30) (.c (.int .i64 (1))) },
  { dst := some 30, op := .mov (.t 39) }]
def network_wrong.r15 : List AI := [
  { dst := some 6, op := .mov (.c (.int .i64 (0))) }]
def network_wrong.l1 : ACode := (.seq (.ops network_wrong.r4 false) (.seq (.cond (.t 19) .skip (.exit 0)) (.seq (.block 1 (.seq (.dr (.ops network_wrong.r5 false) [19, 20, 21] []) (.seq (.dr (.ops network_wrong.r6 false) [8, 22, 23, 24, 25] []) (.cond (.t 26) (.seq (.dr (.ops network_wrong.r7 false) [2, 3, 16, 17, 18, 26] []) .ret) .skip)))) (.dr (.ops network_wrong.r8 false) [26, 27] []))))
def network_wrong.l2 : ACode := (.seq (.ops network_wrong.r10 false) (.seq (.cond (.t 31) .skip (.exit 2)) (.seq (.block 3 (.seq (.dr (.ops network_wrong.r11 false) [31, 32, 33] []) (.seq (.dr (.ops network_wrong.r12 false) [10, 34, 35, 36, 37] []) (.cond (.t 38) (.seq (.dr (.ops network_wrong.r13 false) [3, 28, 29, 30, 38] []) .ret) .skip)))) (.dr (.ops network_wrong.r14 false) [38, 39] []))))
def network_wrong.c : ACode := (.seq (.dr (.ops network_wrong.r0 false) [0, 6] []) (.seq (.seq (.dr (.ops network_wrong.r1 false) [11, 12, 13, 14] []) (.cond (.t 15) (.seq (.dr (.ops network_wrong.r2 false) [1, 2, 3, 15] []) .ret) .skip)) (.seq (.seq (.dr (.ops network_wrong.r3 false) [1, 15] []) (.block 0 (.loop network_wrong.l1))) (.seq (.seq (.dr (.ops network_wrong.r9 false) [2, 16, 17, 18, 19] []) (.block 2 (.loop network_wrong.l2))) (.seq (.dr (.ops network_wrong.r15 false) [3, 28, 29, 30, 31] []) .ret)))))
def network_wrong : AFn := ⟨3, network_wrong.c, [.tmp 6]⟩

/-! network_compute -/
def network_compute.r0 : List AI := [
  { dst := some 3, op := .box 3 (.t 0) },
  { dst := some 6, op := .mov (.c .nil) },
  { dst := some 7, op := .mov (.c (.bool false)) }]
def network_compute.r1 : List AI := [
  { dst := some 16, op := .fadr (.t 3) 8 },
  { dst := some 17, op := .ld false 1 (.t 16) },
  { dst := some 18, op := .bin .add (.c (.int .i64 (1))) (.t 17) },
  { dst := some 19, op := .fadr (.t 3) 9 },
  { dst := some 20, op := .ld false 1 (.t 19) },
  { dst := some 21, op := .len (.t 20) },
  { dst := some 22, op := .bin .add (.t 18) (.t 21) },
  { dst := some 23, op := .mk 23 1 8 [(.int .i64 (0))] (.c (.int .i64 (0))) (.t 22) },
  { dst := some 8, op := .mov (.t 23) }]
def network_compute.r2 : List AI := [
  { dst := some 24, op := .mov (.t 8) },
  { dst := some 25, op := .mov (.t 2) },
  { dst := some 26, op := .bslice 26 1 [(.t 25)] },
  { dst := some 27, op := .app 27 1 8 (.t 24) (.t 26) },
  { dst := some 8, op := .mov (.t 27) }]
def network_compute.r3 : List AI := [
  { dst := some 28, op := .mov (.t 8) },
  { dst := some 29, op := .mov (.t 1) },
  { dst := some 30, op := .app 30 1 8 (.t 28) (.t 29) },
  { dst := some 8, op := .mov (.t 30) }]
def network_compute.r4 : List AI := [
  { dst := some 9, op := .mov (.c (.bool false)) }]
def network_compute.r5 : List AI := [
  { dst := some 31, op := .fadr (.t 3) 9 },
  { dst := some 32, op := .ld false 1 (.t 31) },
  { dst := some 33, op := .len (.t 32) },
  { dst := some 34, op := .mov (.c (.int .i64 (0))) }]
def network_compute.r6 : List AI := [
  { dst := some 35, op := .bin .lss (.t 34) (.t 33) }]
def network_compute.r7 : List AI := [
  { dst := some 36, op := .iadr none 1 (.t 32) (.t 34) },
  { dst := some 37, op := .ld true 1 (.t 36) },
  { dst := some 11, op := .alloc 11 [.nil] },
  { dst := none, op := .st 1 (.t 11) (.t 37) }]
def network_compute.r8 : List AI := [
  { dst := some 12, op := .mov (.c (.int .i64 (0))) }]
def network_compute.r9 : List AI := [
  { dst := some 38, op := .fadr (.t 11) 0 },
  { dst := some 39, op := .ld false 1 (.t 38) },
  { dst := some 40, op := .len (.t 39) },
  { dst := some 41, op := .mov (.c (.int .i64 (0))) }]
def network_compute.r10 : List AI := [
  { dst := some 42, op := .bin .lss (.t 41) (.t 40) }]
def network_compute.r11 : List AI := [
  { dst := some 43, op := .iadr none 2 (.t 39) (.t 41) },
  { dst := some 44, op := .ld true 2 (.t 43) },
  { dst := some 14, op := .alloc 14 [(.int .i64 (0)), (.int .i64 (0))] },
  { dst := none, op := .st 2 (.t 14) (.t 44) }]
def network_compute.r12 : List AI := [
  { dst := some 45, op := .mov (.t 12) },
  { dst := some 46, op := .fadr (.t 14) 1 },
  { dst := some 47, op := .ld false 1 (.t 46) },
  { dst := some 48, op := .mov (.t 8) },
  { dst := some 49, op := .fadr (.t 14) 0 },
  { dst := some 50, op := .ld false 1 (.t 49) },
  { dst := some 51, op := .iadr none 1 (.t 48) (.t 50) },
  { dst := some 52, op := .ld false 1 (.t 51) },
  { dst := some 53, op := .bin .mul (.t 47) (.t 52) },
  { dst := some 54, op := .bin .add (.t 45) (.t 53) },
  { dst := some 12, op := .mov (.t 54) }]
def network_compute.r13 : List AI := [
  { dst := some 55, op := .bin .add (.t 41) (.c (.int .i64 (1))) },
  { dst := some 41, op := .mov (.t 55) }]
def network_compute.r14 : List AI := [
  { dst := some 56, op := .mov (.t 12) },
  { dst := some 57, op := .fadr (.t 3) 4 },
  { dst := some 58, op := .fadr (.t 57) 1 },
  { dst := some 59, op := .ld false 1 (.t 58) },
  { dst := some 60, op := .fadr (.t 3) 0 },
  { dst := some 61, op := .fadr (.t 60) 2 },
  { dst := some 62, op := .ld false 1 (.t 61) },
  { dst := some 63, op := .call 6 [(.t 56), (.t 59), (.t 62)] },
  { dst := some 15, op := .mov (.t 63) }]
def network_compute.r15 : List AI := [
  { dst := some 64, op := .mov (.t 9) },
  { dst := some 65, op := .mov (.t 64) },
  { dst := some 66, op := .fadr (.t 3) 0, guard := some (65, false) },
  { dst := some 67, op := .ld true 4 (.t 66), guard := some (65, false) },
  { dst := some 68, op := .mov (.t 15), guard := some (65, false) },
  { dst := some 69, op := .call 5 [(.t 67), (.t 68)], guard := some (65, false) },
  { dst := some 70, op := .un .not (.t 69), guard := some (65, false) },
  { dst := some 71, op := .pick (.t 65) (.c (.bool true)) (.t 70) },
  { dst := some 9, op := .mov (.t 71) }]
def network_compute.r16 : List AI := [
  { dst := some 72, op := .mov (.t 8) },
  { dst := some 73, op := .fadr (.t 3) 0 },
  { dst := some 74, op := .ld true 4 (.t 73) },
  { dst := some 75, op := .mov (.t 15) },
  { dst := some 76, op := .call 9 [(.t 74), (.t 75)] },
  { dst := some 77, op := .bslice 77 1 [(.t 76)] },
  { dst := some 78, op := .app 78 1 8 (.t 72) (.t 77) },
  { dst := some 8, op := .mov (.t 78) }]
def network_compute.r17 : List AI := [
  { dst := some 79, op := .bin .add (.t 34) (.c (.int .i64 (1))) },
  { dst := some 34, op := .mov (.t 79) }]
def network_compute.r18 : List AI := [
  { dst := some 80, op := .mov (.t 8) },
  { dst := some 81, op := .mov (.t 9) },
  { dst := some 6, op := .mov (.t 80) },
  { dst := some 7, op := .mov (.t 81) }]
def network_compute.l2 : ACode := (.seq (.ops network_compute.r10 false) (.seq (.cond (.t 42) .skip (.exit 2)) (.seq (.block 3 (.seq (.dr (.ops network_compute.r11 false) [42, 43, 44] []) (.dr (.ops network_compute.r12 true) [14, 45, 46, 47, 48, 49, 50, 51, 52, 53, 54] []))) (.dr (.ops network_compute.r13 false) [55] []))))
def network_compute.l1 : ACode := (.seq (.ops network_compute.r6 false) (.seq (.cond (.t 35) .skip (.exit 0)) (.seq (.block 1 (.seq (.dr (.ops network_compute.r7 false) [35, 36, 37] []) (.seq (.ops network_compute.r8 false) (.seq (.seq (.dr (.ops network_compute.r9 false) [11, 38] []) (.block 2 (.loop network_compute.l2))) (.seq (.dr (.ops network_compute.r14 false) [12, 39, 40, 41, 42, 56, 57, 58, 59, 60, 61, 62, 63] []) (.seq (.dr (.ops network_compute.r15 false) [64, 65, 66, 67, 68, 69, 70, 71] []) (.dr (.ops network_compute.r16 false) [15, 72, 73, 74, 75, 76, 77, 78] []))))))) (.dr (.ops network_compute.r17 false) [79] []))))
def network_compute.c : ACode := (.seq (.dr (.ops network_compute.r0 false) [0, 6, 7] []) (.seq (.dr (.ops network_compute.r1 false) [16, 17, 18, 19, 20, 21, 22, 23] []) (.seq (.dr (.ops network_compute.r2 false) [2, 24, 25, 26, 27] []) (.seq (.dr (.ops network_compute.r3 false) [1, 28, 29, 30] []) (.seq (.ops network_compute.r4 false) (.seq (.seq (.dr (.ops network_compute.r5 false) [31] []) (.block 0 (.loop network_compute.l1))) (.seq (.dr (.ops network_compute.r18 false) [3, 8, 9, 32, 33, 34, 35, 80, 81] []) .ret)))))))
def network_compute : AFn := ⟨3, network_compute.c, [.tmp 6, .tmp 7]⟩

/-! network_Values -/
def network_Values.r0 : List AI := [
  { dst := some 3, op := .box 3 (.t 0) },
  { dst := some 6, op := .mov (.c .nil) },
  { dst := some 7, op := .mov (.c (.bool false)) },
  { dst := some 8, op := .mov (.c (.int .i64 (0))) }]
def network_Values.r1 : List AI := [
  { dst := some 12, op := .ld true 12 (.t 3) },
  { dst := some 13, op := .call 21 [(.t 12)] },
  { dst := some 14, op := .un .not (.t 13) }]
def network_Values.r2 : List AI := [
  { dst := some 6, op := .mov (.c .nil) },
  { dst := some 7, op := .mov (.c (.bool false)) },
  { dst := some 8, op := .mov (.c (.int .i64 (2))) }]
def network_Values.r3 : List AI := [
  { dst := some 15, op := .ld true 12 (.t 3) },
  { dst := some 16, op := .mov (.t 1) },
  { dst := some 17, op := .mov (.t 2) },
  { dst := some 18, op := .bslice 18 1 [(.t 17)] },
  { dst := some 19, op := .call 22 [(.t 15), (.t 16), (.t 18)] },
  { dst := some 9, op := .mov (.t 19) }]
def network_Values.r4 : List AI := [
  { dst := some 20, op := .mov (.t 9) },
  { dst := some 21, op := .bin .neq (.t 20) (.c (.int .i64 (0))) }]
def network_Values.r5 : List AI := [
  { dst := some 22, op := .mov (.t 9) },
  { dst := some 6, op := .mov (.c .nil) },
  { dst := some 7, op := .mov (.c (.bool false)) },
  { dst := some 8, op := .mov (.t 22) }]
def network_Values.r6 : List AI := [
  { dst := some 24, op := .ld true 12 (.t 3) },
  { dst := some 25, op := .mov (.t 1) },
  { dst := some 26, op := .mov (.t 2) },
  { dst := some 27, op := .call 23 [(.t 24), (.t 25), (.t 26)] },
  { dst := some 23, op := .mov (.t 27) },
  { dst := some 28, op := .ext (.t 23) 0 },
  { dst := some 29, op := .ext (.t 23) 1 },
  { dst := some 10, op := .mov (.t 28) },
  { dst := some 11, op := .mov (.t 29) }]
def network_Values.r7 : List AI := [
  { dst := some 30, op := .mov (.t 10) },
  { dst := some 31, op := .mov (.t 11) },
  { dst := some 6, op := .mov (.t 30) },
  { dst := some 7, op := .mov (.t 31) },
  { dst := some 8, op := .mov (.c (.int .i64 (0))) }]
def network_Values.c : ACode := (.seq (.dr (.ops network_Values.r0 false) [0, 6, 7, 8] []) (.seq (.seq (.dr (.ops network_Values.r1 false) [12, 13] []) (.cond (.t 14) (.seq (.dr (.ops network_Values.r2 false) [1, 2, 3, 14] []) .ret) .skip)) (.seq (.seq (.dr (.ops network_Values.r3 false) [14, 15, 16, 17, 18, 19] []) (.seq (.dr (.ops network_Values.r4 false) [20] []) (.cond (.t 21) (.seq (.dr (.ops network_Values.r5 false) [1, 2, 3, 9, 21, 22] []) .ret) .skip))) (.seq (.dr (.ops network_Values.r6 false) [1, 2, 3, 9, 21, 23, 24, 25, 26, 27, 28, 29] []) (.seq (.dr (.ops network_Values.r7 false) [10, 11, 30, 31] []) .ret)))))
def network_Values : AFn := ⟨3, network_Values.c, [.tmp 6, .tmp 7, .tmp 8]⟩

/-! network_follow -/
def network_follow.r0 : List AI := [
  { dst := some 2, op := .box 2 (.t 0) },
  { dst := some 4, op := .mov (.c .nil) }]
def network_follow.r1 : List AI := [
  { dst := some 8, op := .fadr (.t 2) 8 },
  { dst := some 9, op := .ld false 1 (.t 8) },
  { dst := some 10, op := .mk 10 1 8 [(.int .i64 (0))] (.t 9) (.t 9) },
  { dst := some 5, op := .mov (.t 10) }]
def network_follow.r2 : List AI := [
  { dst := some 11, op := .fadr (.t 2) 10 },
  { dst := some 12, op := .ld false 1 (.t 11) },
  { dst := some 13, op := .len (.t 12) },
  { dst := some 14, op := .mov (.c (.int .i64 (0))) }]
def network_follow.r3 : List AI := [
  { dst := some 15, op := .bin .lss (.t 14) (.t 13) }]
def network_follow.r4 : List AI := [
  { dst := some 16, op := .mov (.t 14) },
  { dst := some 17, op := .iadr none 1 (.t 12) (.t 14) },
  { dst := some 18, op := .ld false 1 (.t 17) },
  { dst := some 6, op := .mov (.t 16) },
  { dst := some 7, op := .mov (.t 18) }]
def network_follow.r5 : List AI := [
  { dst := some 19, op := .mov (.t 5) },
  { dst := some 20, op := .mov (.t 6) },
  { dst := some 21, op := .mov (.t 1) },
  { dst := some 22, op := .mov (.t 7) },
  { dst := some 23, op := .iadr none 1 (.t 21) (.t 22) },
  { dst := some 24, op := .ld false 1 (.t 23) },
  { dst := some 25, op := .iadr none 1 (.t 19) (.t 20) },
  { dst := none, op := .st 1 (.t 25) (.t 24) }]
def network_follow.r6 : List AI := [
  { dst := some 26, op := .bin .add (.t 14) (.c (.int .i64 (1))) },
  { dst := some 14, op := .mov (.t 26) }]
def network_follow.r7 : List AI := [
  { dst := some 27, op := .mov (.t 5) },
  { dst := some 4, op := .mov (.t 27) }]
def network_follow.l1 : ACode := (.seq (.ops network_follow.r3 false) (.seq (.cond (.t 15) .skip (.exit 0)) (.seq (.block 1 (.seq (.dr (.ops network_follow.r4 false) [15, 16, 17, 18] []) (.dr (.ops network_follow.r5 false) [6, 7, 19, 20, 21, 22, 23, 24, 25] []))) (.dr (.ops network_follow.r6 false) [26] []))))
def network_follow.c : ACode := (.seq (.dr (.ops network_follow.r0 false) [0, 4] []) (.seq (.dr (.ops network_follow.r1 false) [8, 9, 10] []) (.seq (.seq (.dr (.ops network_follow.r2 false) [2, 11] []) (.block 0 (.loop network_follow.l1))) (.seq (.dr (.ops network_follow.r7 false) [1, 5, 12, 13, 14, 15, 27] []) .ret))))
def network_follow : AFn := ⟨2, network_follow.c, [.tmp 4]⟩

/-! network_Step -/
def network_Step.r0 : List AI := [
  { dst := some 3, op := .box 3 (.t 0) },
  { dst := some 6, op := .mov (.c .nil) },
  { dst := some 7, op := .mov (.c (.int .i64 (0))) },
  { dst := some 8, op := .mov (.c (.bool false)) },
  { dst := some 9, op := .mov (.c (.int .i64 (0))) }]
def network_Step.r1 : List AI := [
  { dst := some 14, op := .ld true 12 (.t 3) },
  { dst := some 15, op := .mov (.t 1) },
  { dst := some 16, op := .mov (.t 2) },
  { dst := some 17, op := .call 24 [(.t 14), (.t 15), (.t 16)] },
  { dst := some 13, op := .mov (.t 17) },
  { dst := some 18, op := .ext (.t 13) 0 },
  { dst := some 19, op := .ext (.t 13) 1 },
  { dst := some 20, op := .ext (.t 13) 2 },
  { dst := some 10, op := .mov (.t 18) },
  { dst := some 11, op := .mov (.t 19) },
  { dst := some 12, op := .mov (.t 20) }]
def network_Step.r2 : List AI := [
  { dst := some 21, op := .mov (.t 12) },
  { dst := some 22, op := .bin .neq (.t 21) (.c (.int .i64 (0))) }]
def network_Step.r3 : List AI := [
  { dst := some 23, op := .mov (.t 12) },
  { dst := some 6, op := .mov (.c .nil) },
  { dst := some 7, op := .mov (.c (.int .i64 (0))) },
  { dst := some 8, op := .mov (.c (.bool false)) },
  { dst := some 9, op := .mov (.t 23) }]
def network_Step.r4 : List AI := [
  { dst := some 24, op := .ld true 12 (.t 3) },
  { dst := some 25, op := .mov (.t 10) },
  { dst := some 26, op := .call 25 [(.t 24), (.t 25)] },
  { dst := some 27, op := .mov (.t 10) },
  { dst := some 28, op := .fadr (.t 3) 11 },
  { dst := some 29, op := .ld false 1 (.t 28) },
  { dst := some 30, op := .iadr none 1 (.t 27) (.t 29) },
  { dst := some 31, op := .ld false 1 (.t 30) },
  { dst := some 32, op := .mov (.t 11) },
  { dst := some 6, op := .mov (.t 26) },
  { dst := some 7, op := .mov (.t 31) },
  { dst := some 8, op := .mov (.t 32) },
  { dst := some 9, op := .mov (.c (.int .i64 (0))) }]
def network_Step.c : ACode := (.seq (.dr (.ops network_Step.r0 false) [0, 6, 7, 8, 9] []) (.seq (.dr (.ops network_Step.r1 false) [1, 2, 13, 14, 15, 16, 17, 18, 19, 20] []) (.seq (.seq (.dr (.ops network_Step.r2 false) [21] []) (.cond (.t 22) (.seq (.dr (.ops network_Step.r3 false) [3, 10, 11, 12, 22, 23] []) .ret) .skip)) (.seq (.dr (.ops network_Step.r4 true) [3, 10, 11, 12, 22, 24, 25, 26, 27, 28, 29, 30, 31, 32] []) .ret))))
def network_Step : AFn := ⟨3, network_Step.c, [.tmp 6, .tmp 7, .tmp 8, .tmp 9]⟩

/-! ref22_Valid -/
def ref22_Valid.r0 : List AI := [
  { dst := some 1, op := .box 1 (.t 0) },
  { dst := some 2, op := .mov (.c (.bool false)) }]
def ref22_Valid.r1 : List AI := [
  { dst := some 8, op := .fadr (.t 1) 0 },
  { dst := some 9, op := .ld true 4 (.t 8) },
  { dst := some 10, op := .call 11 [(.t 9)] },
  { dst := some 11, op := .un .not (.t 10) },
  { dst := some 12, op := .mov (.t 11) },
  { dst := some 13, op := .fadr (.t 1) 4, guard := some (12, false) },
  { dst := some 14, op := .ld true 4 (.t 13), guard := some (12, false) },
  { dst := some 15, op := .call 11 [(.t 14)], guard := some (12, false) },
  { dst := some 16, op := .un .not (.t 15), guard := some (12, false) },
  { dst := some 17, op := .pick (.t 12) (.c (.bool true)) (.t 16) },
  { dst := some 18, op := .mov (.t 17) },
  { dst := some 19, op := .fadr (.t 1) 8, guard := some (18, false) },
  { dst := some 20, op := .ld false 1 (.t 19), guard := some (18, false) },
  { dst := some 21, op := .call 10 [(.t 20), (.c (.int .i64 (0))), (.c (.int .i64 (64)))], guard := some (18, false) },
  { dst := some 22, op := .un .not (.t 21), guard := some (18, false) },
  { dst := some 23, op := .pick (.t 18) (.c (.bool true)) (.t 22) },
  { dst := some 24, op := .mov (.t 23) },
  { dst := some 25, op := .fadr (.t 1) 9, guard := some (24, false) },
  { dst := some 26, op := .ld false 1 (.t 25), guard := some (24, false) },
  { dst := some 27, op := .len (.t 26), guard := some (24, false) },
  { dst := some 28, op := .bin .gtr (.t 27) (.c (.int .i64 (64))), guard := some (24, false) },
  { dst := some 29, op := .pick (.t 24) (.c (.bool true)) (.t 28) },
  { dst := some 30, op := .mov (.t 29) },
  { dst := some 31, op := .fadr (.t 1) 10, guard := some (30, false) },
  { dst := some 32, op := .ld false 1 (.t 31), guard := some (30, false) },
  { dst := some 33, op := .len (.t 32), guard := some (30, false) },
  { dst := some 34, op := .fadr (.t 1) 8, guard := some (30, false) },
  { dst := some 35, op := .ld false 1 (.t 34), guard := some (30, false) },
  { dst := some 36, op := .bin .neq (.t 33) (.t 35), guard := some (30, false) },
  { dst := some 37, op := .pick (.t 30) (.c (.bool true)) (.t 36) }]
def ref22_Valid.r2 : List AI := [
  { dst := some 2, op := .mov (.c (.bool false)) }]
def ref22_Valid.r3 : List AI := [
  { dst := some 3, op := .mov (.c (.int .i64 (0))) }]
def ref22_Valid.r4 : List AI := [
  { dst := some 38, op := .mov (.t 3) },
  { dst := some 39, op := .fadr (.t 1) 9 },
  { dst := some 40, op := .ld false 1 (.t 39) },
  { dst := some 41, op := .len (.t 40) },
  { dst := some 42, op := .bin .lss (.t 38) (.t 41) }]
def ref22_Valid.r6 : List AI := [
  { dst := some 45, op := .fadr (.t 1) 9 },
  { dst := some 46, op := .ld false 1 (.t 45) },
  { dst := some 47, op := .mov (.t 3) },
  { dst := some 48, op := .iadr none 1 (.t 46) (.t 47) },
  { dst := some 49, op := .fadr (.t 48) 0 },
  { dst := some 50, op := .ld false 1 (.t 49) },
  { dst := some 51, op := .len (.t 50) },
  { dst := some 52, op := .bin .gtr (.t 51) (.c (.int .i64 (64))) }]
def ref22_Valid.r7 : List AI := [
  { dst := some 2, op := .mov (.c (.bool false)) }]
def ref22_Valid.r8 : List AI := [
  { dst := some 4, op := .mov (.c (.int .i64 (0))) }]
def ref22_Valid.r9 : List AI := [
  { dst := some 53, op := .mov (.t 4) },
  { dst := some 54, op := .fadr (.t 1) 9 },
  { dst := some 55, op := .ld false 1 (.t 54) },
  { dst := some 56, op := .mov (.t 3) },
  { dst := some 57, op := .iadr none 1 (.t 55) (.t 56) },
  { dst := some 58, op := .fadr (.t 57) 0 },
  { dst := some 59, op := .ld false 1 (.t 58) },
  { dst := some 60, op := .len (.t 59) },
  { dst := some 61, op := .bin .lss (.t 53) (.t 60) }]
def ref22_Valid.r11 : List AI := [
  { dst := some 64, op := .fadr (.t 1) 9 },
  { dst := some 65, op := .ld false 1 (.t 64) },
  { dst := some 66, op := .mov (.t 3) },
  { dst := some 67, op := .iadr none 1 (.t 65) (.t 66) },
  { dst := some 68, op := .fadr (.t 67) 0 },
  { dst := some 69, op := .ld false 1 (.t 68) },
  { dst := some 70, op := .mov (.t 4) },
  { dst := some 71, op := .iadr none 2 (.t 69) (.t 70) },
  { dst := some 72, op := .ld true 2 (.t 71) },
  { dst := some 5, op := .alloc 5 [(.int .i64 (0)), (.int .i64 (0))] },
  { dst := none, op := .st 2 (.t 5) (.t 72) }]
def ref22_Valid.r12 : List AI := [
  { dst := some 73, op := .fadr (.t 5) 0 },
  { dst := some 74, op := .ld false 1 (.t 73) },
  { dst := some 75, op := .fadr (.t 1) 8 },
  { dst := some 76, op := .ld false 1 (.t 75) },
  { dst := some 77, op := .mov (.t 3) },
  { dst := some 78, op := .bin .add (.t 76) (.t 77) },
  { dst := some 79, op := .call 10 [(.t 74), (.c (.int .i64 (0))), (.t 78)] },
  { dst := some 80, op := .un .not (.t 79) },
  { dst := some 81, op := .mov (.t 80) },
  { dst := some 82, op := .fadr (.t 1) 4, guard := some (81, false) },
  { dst := some 83, op := .ld true 4 (.t 82), guard := some (81, false) },
  { dst := some 84, op := .fadr (.t 5) 1, guard := some (81, false) },
  { dst := some 85, op := .ld false 1 (.t 84), guard := some (81, false) },
  { dst := some 86, op := .call 14 [(.t 83), (.t 85)], guard := some (81, false) },
  { dst := some 87, op := .un .not (.t 86), guard := some (81, false) },
  { dst := some 88, op := .mov (.t 87), guard := some (81, false) },
  { dst := some 89, op := .fadr (.t 5) 1, guard := some (88, true) },
  { dst := some 90, op := .ld false 1 (.t 89), guard := some (88, true) },
  { dst := some 91, op := .fadr (.t 1) 4, guard := some (88, true) },
  { dst := some 92, op := .fadr (.t 91) 1, guard := some (88, true) },
  { dst := some 93, op := .ld false 1 (.t 92), guard := some (88, true) },
  { dst := some 94, op := .conv .u64 (.t 93), guard := some (88, true) },
  { dst := some 95, op := .bin .shl (.c (.int .i64 (1))) (.t 94), guard := some (88, true) },
  { dst := some 96, op := .bin .neq (.t 90) (.t 95), guard := some (88, true) },
  { dst := some 97, op := .pick (.t 88) (.t 96) (.c (.bool false)), guard := some (81, false) },
  { dst := some 98, op := .pick (.t 81) (.c (.bool true)) (.t 97) }]
def ref22_Valid.r13 : List AI := [
  { dst := some 2, op := .mov (.c (.bool false)) }]
def ref22_Valid.r10 : List AI := [
  { dst := some 62, op := .mov (.t 4) },
  { dst := some 63, op := .bin .add (.t 62) (.c (.int .i64 (1))) },
  { dst := some 4, op := .mov (.t 63) }]
def ref22_Valid.r5 : List AI := [
  { dst := some 43, op := .mov (.t 3) },
  { dst := some 44, op := .bin .add (.t 43) (.c (.int .i64 (1))) },
  { dst := some 3, op := .mov (.t 44) }]
def ref22_Valid.r14 : List AI := [
  { dst := some 99, op := .fadr (.t 1) 8 },
  { dst := some 100, op := .ld false 1 (.t 99) },
  { dst := some 101, op := .fadr (.t 1) 9 },
  { dst := some 102, op := .ld false 1 (.t 101) },
  { dst := some 103, op := .len (.t 102) },
  { dst := some 104, op := .bin .add (.t 100) (.t 103) },
  { dst := some 6, op := .mov (.t 104) }]
def ref22_Valid.r15 : List AI := [
  { dst := some 7, op := .mov (.c (.int .i64 (0))) }]
def ref22_Valid.r16 : List AI := [
  { dst := some 105, op := .mov (.t 7) },
  { dst := some 106, op := .fadr (.t 1) 8 },
  { dst := some 107, op := .ld false 1 (.t 106) },
  { dst := some 108, op := .bin .lss (.t 105) (.t 107) }]
def ref22_Valid.r18 : List AI := [
  { dst := some 111, op := .fadr (.t 1) 10 },
  { dst := some 112, op := .ld false 1 (.t 111) },
  { dst := some 113, op := .mov (.t 7) },
  { dst := some 114, op := .iadr none 1 (.t 112) (.t 113) },
  { dst := some 115, op := .ld false 1 (.t 114) },
  { dst := some 116, op := .mov (.t 6) },
  { dst := some 117, op := .call 10 [(.t 115), (.c (.int .i64 (0))), (.t 116)] },
  { dst := some 118, op := .un .not (.t 117) }]
def ref22_Valid.r19 : List AI := [
  { dst := some 2, op := .mov (.c (.bool false)) }]
def ref22_Valid.r17 : List AI := [
  { dst := some 109, op := .mov (.t 7) },
  { dst := some 110, op := .bin .add (.t 109) (.c (.int .i64 (1))) },
  { dst := some 7, op := .mov (.t 110) }]
def ref22_Valid.r20 : List AI := [
  { dst := some 119, op := .fadr (.t 1) 11 },
  { dst := some 120, op := .ld false 1 (.t 119) },
  { dst := some 121, op := .mov (.t 6) },
  { dst := some 122, op := .call 10 [(.t 120), (.c (.int .i64 (0))), (.t 121)] },
  { dst := some 2, op := .mov (.t 122) }]
def ref22_Valid.l2 : ACode := (.seq (.seq (.dr (.ops ref22_Valid.r9 false) [53, 54, 55, 56, 57, 58, 59, 60] []) (.cond (.t 61) .skip (.exit 2))) (.seq (.block 3 (.seq (.dr (.ops ref22_Valid.r11 false) [61, 64, 65, 66, 67, 68, 69, 70, 71, 72] []) (.seq (.dr (.ops ref22_Valid.r12 false) [5, 73, 74, 75, 76, 77, 78, 79, 80, 81, 82, 83, 84, 85, 86, 87, 88, 89, 90, 91, 92, 93, 94, 95, 96, 97] []) (.cond (.t 98) (.seq (.dr (.ops ref22_Valid.r13 false) [1, 3, 4, 98] []) .ret) .skip)))) (.dr (.ops ref22_Valid.r10 false) [62, 63, 98] [])))
def ref22_Valid.l1 : ACode := (.seq (.seq (.dr (.ops ref22_Valid.r4 false) [38, 39, 40, 41] []) (.cond (.t 42) .skip (.exit 0))) (.seq (.block 1 (.seq (.seq (.dr (.ops ref22_Valid.r6 false) [42, 45, 46, 47, 48, 49, 50, 51] []) (.cond (.t 52) (.seq (.dr (.ops ref22_Valid.r7 false) [1, 3, 52] []) .ret) .skip)) (.seq (.dr (.ops ref22_Valid.r8 false) [52] []) (.block 2 (.loop ref22_Valid.l2))))) (.dr (.ops ref22_Valid.r5 false) [4, 43, 44, 61] [])))
def ref22_Valid.l3 : ACode := (.seq (.seq (.dr (.ops ref22_Valid.r16 false) [105, 106, 107] []) (.cond (.t 108) .skip (.exit 4))) (.seq (.block 5 (.seq (.dr (.ops ref22_Valid.r18 false) [108, 111, 112, 113, 114, 115, 116, 117] []) (.cond (.t 118) (.seq (.dr (.ops ref22_Valid.r19 false) [1, 6, 7, 118] []) .ret) .skip))) (.dr (.ops ref22_Valid.r17 false) [109, 110, 118] [])))
def ref22_Valid.c : ACode := (.seq (.dr (.ops ref22_Valid.r0 false) [0, 2] []) (.seq (.seq (.dr (.ops ref22_Valid.r1 false) [8, 9, 10, 11, 12, 13, 14, 15, 16, 17, 18, 19, 20, 21, 22, 23, 24, 25, 26, 27, 28, 29, 30, 31, 32, 33, 34, 35, 36] []) (.cond (.t 37) (.seq (.dr (.ops ref22_Valid.r2 false) [1, 37] []) .ret) .skip)) (.seq (.seq (.dr (.ops ref22_Valid.r3 false) [37] []) (.block 0 (.loop ref22_Valid.l1))) (.seq (.dr (.ops ref22_Valid.r14 false) [3, 42, 99, 100, 101, 102, 103, 104] []) (.seq (.seq (.ops ref22_Valid.r15 false) (.block 4 (.loop ref22_Valid.l3))) (.seq (.dr (.ops ref22_Valid.r20 false) [1, 6, 7, 108, 119, 120, 121, 122] []) .ret))))))
def ref22_Valid : AFn := ⟨1, ref22_Valid.c, [.tmp 2]⟩

/-! ref22_total -/
def ref22_total.r0 : List AI := [
  { dst := some 2, op := .box 2 (.t 0) },
  { dst := some 4, op := .mov (.c (.int .i64 (0))) }]
def ref22_total.r1 : List AI := [
  { dst := some 5, op := .mov (.c (.int .i64 (0))) }]
def ref22_total.r2 : List AI := [
  { dst := some 6, op := .mov (.c (.int .i64 (0))) }]
def ref22_total.r3 : List AI := [
  { dst := some 7, op := .mov (.t 6) },
  { dst := some 8, op := .fadr (.t 2) 0 },
  { dst := some 9, op := .ld false 1 (.t 8) },
  { dst := some 10, op := .len (.t 9) },
  { dst := some 11, op := .bin .lss (.t 7) (.t 10) }]
def ref22_total.r5 : List AI := [
  { dst := some 14, op := .mov (.t 5) },
  { dst := some 15, op := .fadr (.t 2) 0 },
  { dst := some 16, op := .ld false 1 (.t 15) },
  { dst := some 17, op := .mov (.t 6) },
  { dst := some 18, op := .iadr none 2 (.t 16) (.t 17) },
  { dst := some 19, op := .fadr (.t 18) 1 },
  { dst := some 20, op := .ld false 1 (.t 19) },
  { dst := some 21, op := .mov (.t 1) },
  { dst := some 22, op := .fadr (.t 2) 0 },
  { dst := some 23, op := .ld false 1 (.t 22) },
  { dst := some 24, op := .mov (.t 6) },
  { dst := some 25, op := .iadr none 2 (.t 23) (.t 24) },
  { dst := some 26, op := .fadr (.t 25) 0 },
  { dst := some 27, op := .ld false 1 (.t 26) },
  { dst := some 28, op := .iadr none 1 (.t 21) (.t 27) },
  { dst := some 29, op := .ld false 1 (.t 28) },
  { dst := some 30, op := .bin .mul (.t 20) (.t 29) },
  { dst := some 31, op := .bin .add (.t 14) (.t 30) },
  { dst := some 5, op := .mov (.t 31) }]
def ref22_total.r4 : List AI := [
  { dst := some 12, op := .mov (.t 6) },
  { dst := some 13, op := .bin .add (.t 12) (.c (.int .i64 (1))) },
  { dst := some 6, op := .mov (.t 13) }]
def ref22_total.r6 : List AI := [
  { dst := some 32, op := .mov (.t 5) },
  { dst := some 4, op := .mov (.t 32) }]
def ref22_total.l1 : ACode := (.seq (.seq (.dr (.ops ref22_total.r3 false) [7, 8, 9, 10] []) (.cond (.t 11) .skip (.exit 0))) (.seq (.block 1 (.dr (.ops ref22_total.r5 true) [11, 14, 15, 16, 17, 18, 19, 20, 21, 22, 23, 24, 25, 26, 27, 28, 29, 30, 31] [])) (.dr (.ops ref22_total.r4 false) [12, 13] [])))
def ref22_total.c : ACode := (.seq (.dr (.ops ref22_total.r0 false) [0, 4] []) (.seq (.ops ref22_total.r1 false) (.seq (.seq (.ops ref22_total.r2 false) (.block 0 (.loop ref22_total.l1))) (.seq (.dr (.ops ref22_total.r6 false) [1, 2, 5, 6, 11, 32] []) .ret))))
def ref22_total : AFn := ⟨2, ref22_total.c, [.tmp 4]⟩

/-! ref22_Values -/
def ref22_Values.r0 : List AI := [
  { dst := some 3, op := .box 3 (.t 0) },
  { dst := some 6, op := .mov (.c .nil) },
  { dst := some 7, op := .mov (.c (.bool false)) },
  { dst := some 8, op := .mov (.c (.int .i64 (0))) }]
def ref22_Values.r1 : List AI := [
  { dst := some 14, op := .ld true 12 (.t 3) },
  { dst := some 15, op := .call 27 [(.t 14)] },
  { dst := some 16, op := .un .not (.t 15) },
  { dst := some 13, op := .mov (.t 16) }]
def ref22_Values.r2 : List AI := [
  { dst := some 6, op := .mov (.c .nil) },
  { dst := some 7, op := .mov (.c (.bool false)) },
  { dst := some 8, op := .mov (.c (.int .i64 (2))) }]
def ref22_Values.r3 : List AI := [
  { dst := some 18, op := .mov (.t 1) },
  { dst := some 19, op := .len (.t 18) },
  { dst := some 20, op := .fadr (.t 3) 8 },
  { dst := some 21, op := .ld false 1 (.t 20) },
  { dst := some 22, op := .bin .neq (.t 19) (.t 21) },
  { dst := some 17, op := .mov (.t 22) }]
def ref22_Values.r4 : List AI := [
  { dst := some 6, op := .mov (.c .nil) },
  { dst := some 7, op := .mov (.c (.bool false)) },
  { dst := some 8, op := .mov (.c (.int .i64 (1))) }]
def ref22_Values.r5 : List AI := [
  { dst := some 24, op := .fadr (.t 3) 0 },
  { dst := some 25, op := .ld true 4 (.t 24) },
  { dst := some 26, op := .mov (.t 1) },
  { dst := some 27, op := .call 19 [(.t 25), (.t 26)] },
  { dst := some 28, op := .un .not (.t 27) },
  { dst := some 29, op := .mov (.t 28) },
  { dst := some 30, op := .fadr (.t 3) 0, guard := some (29, false) },
  { dst := some 31, op := .ld true 4 (.t 30), guard := some (29, false) },
  { dst := some 32, op := .mov (.t 2), guard := some (29, false) },
  { dst := some 33, op := .call 14 [(.t 31), (.t 32)], guard := some (29, false) },
  { dst := some 34, op := .un .not (.t 33), guard := some (29, false) },
  { dst := some 35, op := .pick (.t 29) (.c (.bool true)) (.t 34) },
  { dst := some 23, op := .mov (.t 35) }]
def ref22_Values.r6 : List AI := [
  { dst := some 6, op := .mov (.c .nil) },
  { dst := some 7, op := .mov (.c (.bool false)) },
  { dst := some 8, op := .mov (.c (.int .i64 (17))) }]
def ref22_Values.r7 : List AI := [
  { dst := some 36, op := .mov (.t 2) },
  { dst := some 37, op := .bslice 37 1 [(.t 36)] },
  { dst := some 38, op := .mov (.t 1) },
  { dst := some 39, op := .app 39 1 8 (.t 37) (.t 38) },
  { dst := some 9, op := .mov (.t 39) }]
def ref22_Values.r8 : List AI := [
  { dst := some 10, op := .mov (.c (.bool false)) }]
def ref22_Values.r9 : List AI := [
  { dst := some 11, op := .mov (.c (.int .i64 (0))) }]
def ref22_Values.r10 : List AI := [
  { dst := some 40, op := .mov (.t 11) },
  { dst := some 41, op := .fadr (.t 3) 9 },
  { dst := some 42, op := .ld false 1 (.t 41) },
  { dst := some 43, op := .len (.t 42) },
  { dst := some 44, op := .bin .lss (.t 40) (.t 43) }]
def ref22_Values.r12 : List AI := [
  { dst := some 47, op := .fadr (.t 3) 9 },
  { dst := some 48, op := .ld false 1 (.t 47) },
  { dst := some 49, op := .mov (.t 11) },
  { dst := some 50, op := .iadr none 1 (.t 48) (.t 49) },
  { dst := some 51, op := .ld true 1 (.t 50) },
  { dst := some 52, op := .mov (.t 9) },
  { dst := some 53, op := .call 28 [(.t 51), (.t 52)] },
  { dst := some 54, op := .fadr (.t 3) 4 },
  { dst := some 55, op := .fadr (.t 54) 1 },
  { dst := some 56, op := .ld false 1 (.t 55) },
  { dst := some 57, op := .fadr (.t 3) 0 },
  { dst := some 58, op := .fadr (.t 57) 2 },
  { dst := some 59, op := .ld false 1 (.t 58) },
  { dst := some 60, op := .call 18 [(.t 53), (.t 56), (.t 59)] },
  { dst := some 12, op := .mov (.t 60) }]
def ref22_Values.r13 : List AI := [
  { dst := some 61, op := .mov (.t 10) },
  { dst := some 62, op := .mov (.t 61) },
  { dst := some 63, op := .fadr (.t 3) 0, guard := some (62, false) },
  { dst := some 64, op := .ld true 4 (.t 63), guard := some (62, false) },
  { dst := some 65, op := .mov (.t 12), guard := some (62, false) },
  { dst := some 66, op := .call 14 [(.t 64), (.t 65)], guard := some (62, false) },
  { dst := some 67, op := .un .not (.t 66), guard := some (62, false) },
  { dst := some 68, op := .pick (.t 62) (.c (.bool true)) (.t 67) },
  { dst := some 10, op := .mov (.t 68) }]
def ref22_Values.r14 : List AI := [
  { dst := some 69, op := .mov (.t 9) },
  { dst := some 70, op := .fadr (.t 3) 0 },
  { dst := some 71, op := .ld true 4 (.t 70) },
  { dst := some 72, op := .mov (.t 12) },
  { dst := some 73, op := .call 17 [(.t 71), (.t 72)] },
  { dst := some 74, op := .bslice 74 1 [(.t 73)] },
  { dst := some 75, op := .app 75 1 8 (.t 69) (.t 74) },
  { dst := some 9, op := .mov (.t 75) }]
def ref22_Values.r11 : List AI := [
  { dst := some 45, op := .mov (.t 11) },
  { dst := some 46, op := .bin .add (.t 45) (.c (.int .i64 (1))) },
  { dst := some 11, op := .mov (.t 46) }]
def ref22_Values.r15 : List AI := [
  { dst := some 76, op := .mov (.t 9) },
  { dst := some 77, op := .mov (.t 10) },
  { dst := some 6, op := .mov (.t 76) },
  { dst := some 7, op := .mov (.t 77) },
  { dst := some 8, op := .mov (.c (.int .i64 (0))) }]
def ref22_Values.l1 : ACode := (.seq (.seq (.dr (.ops ref22_Values.r10 false) [40, 41, 42, 43] []) (.cond (.t 44) .skip (.exit 1))) (.seq (.block 2 (.seq (.dr (.ops ref22_Values.r12 true) [44, 47, 48, 49, 50, 51, 52, 53, 54, 55, 56, 57, 58, 59, 60] []) (.seq (.dr (.ops ref22_Values.r13 false) [61, 62, 63, 64, 65, 66, 67, 68] []) (.dr (.ops ref22_Values.r14 false) [12, 69, 70, 71, 72, 73, 74, 75] [])))) (.dr (.ops ref22_Values.r11 false) [45, 46] [])))
def ref22_Values.c : ACode := (.seq (.dr (.ops ref22_Values.r0 false) [0, 6, 7, 8] []) (.seq (.block 0 (.seq (.dr (.ops ref22_Values.r1 false) [14, 15, 16] []) (.cond (.t 13) (.seq (.dr (.ops ref22_Values.r2 false) [1, 2, 3, 13] []) .ret) (.seq (.dr (.ops ref22_Values.r3 false) [13, 18, 19, 20, 21, 22] []) (.cond (.t 17) (.seq (.dr (.ops ref22_Values.r4 false) [1, 2, 3, 17] []) .ret) (.seq (.dr (.ops ref22_Values.r5 false) [17, 24, 25, 26, 27, 28, 29, 30, 31, 32, 33, 34, 35] []) (.cond (.t 23) (.seq (.dr (.ops ref22_Values.r6 false) [1, 2, 3, 23] []) .ret) .skip))))))) (.seq (.dr (.ops ref22_Values.r7 false) [1, 2, 23, 36, 37, 38, 39] []) (.seq (.ops ref22_Values.r8 false) (.seq (.seq (.ops ref22_Values.r9 false) (.block 1 (.loop ref22_Values.l1))) (.seq (.dr (.ops ref22_Values.r15 false) [3, 9, 10, 11, 44, 76, 77] []) .ret))))))
def ref22_Values : AFn := ⟨3, ref22_Values.c, [.tmp 6, .tmp 7, .tmp 8]⟩

/-! ref22_Step -/
def ref22_Step.r0 : List AI := [
  { dst := some 3, op := .box 3 (.t 0) },
  { dst := some 6, op := .mov (.c .nil) },
  { dst := some 7, op := .mov (.c (.int .i64 (0))) },
  { dst := some 8, op := .mov (.c (.bool false)) },
  { dst := some 9, op := .mov (.c (.int .i64 (0))) }]
def ref22_Step.r1 : List AI := [
  { dst := some 16, op := .ld true 12 (.t 3) },
  { dst := some 17, op := .mov (.t 1) },
  { dst := some 18, op := .mov (.t 2) },
  { dst := some 19, op := .call 29 [(.t 16), (.t 17), (.t 18)] },
  { dst := some 15, op := .mov (.t 19) },
  { dst := some 20, op := .ext (.t 15) 0 },
  { dst := some 21, op := .ext (.t 15) 1 },
  { dst := some 22, op := .ext (.t 15) 2 },
  { dst := some 10, op := .mov (.t 20) },
  { dst := some 11, op := .mov (.t 21) },
  { dst := some 12, op := .mov (.t 22) }]
def ref22_Step.r2 : List AI := [
  { dst := some 23, op := .mov (.t 12) },
  { dst := some 24, op := .bin .neq (.t 23) (.c (.int .i64 (0))) }]
def ref22_Step.r3 : List AI := [
  { dst := some 25, op := .mov (.t 12) },
  { dst := some 6, op := .mov (.c .nil) },
  { dst := some 7, op := .mov (.c (.int .i64 (0))) },
  { dst := some 8, op := .mov (.c (.bool false)) },
  { dst := some 9, op := .mov (.t 25) }]
def ref22_Step.r4 : List AI := [
  { dst := some 13, op := .vrow 13 1 }]
def ref22_Step.r5 : List AI := [
  { dst := some 14, op := .mov (.c (.int .i64 (0))) }]
def ref22_Step.r6 : List AI := [
  { dst := some 26, op := .mov (.t 14) },
  { dst := some 27, op := .fadr (.t 3) 8 },
  { dst := some 28, op := .ld false 1 (.t 27) },
  { dst := some 29, op := .bin .lss (.t 26) (.t 28) }]
def ref22_Step.r8 : List AI := [
  { dst := some 32, op := .mov (.t 13) },
  { dst := some 33, op := .mov (.t 10) },
  { dst := some 34, op := .fadr (.t 3) 10 },
  { dst := some 35, op := .ld false 1 (.t 34) },
  { dst := some 36, op := .mov (.t 14) },
  { dst := some 37, op := .iadr none 1 (.t 35) (.t 36) },
  { dst := some 38, op := .ld false 1 (.t 37) },
  { dst := some 39, op := .iadr none 1 (.t 33) (.t 38) },
  { dst := some 40, op := .ld false 1 (.t 39) },
  { dst := some 41, op := .bslice 41 1 [(.t 40)] },
  { dst := some 42, op := .app 42 1 8 (.t 32) (.t 41) },
  { dst := some 13, op := .mov (.t 42) }]
def ref22_Step.r7 : List AI := [
  { dst := some 30, op := .mov (.t 14) },
  { dst := some 31, op := .bin .add (.t 30) (.c (.int .i64 (1))) },
  { dst := some 14, op := .mov (.t 31) }]
def ref22_Step.r9 : List AI := [
  { dst := some 43, op := .mov (.t 13) },
  { dst := some 44, op := .mov (.t 10) },
  { dst := some 45, op := .fadr (.t 3) 11 },
  { dst := some 46, op := .ld false 1 (.t 45) },
  { dst := some 47, op := .iadr none 1 (.t 44) (.t 46) },
  { dst := some 48, op := .ld false 1 (.t 47) },
  { dst := some 49, op := .mov (.t 11) },
  { dst := some 6, op := .mov (.t 43) },
  { dst := some 7, op := .mov (.t 48) },
  { dst := some 8, op := .mov (.t 49) },
  { dst := some 9, op := .mov (.c (.int .i64 (0))) }]
def ref22_Step.l1 : ACode := (.seq (.seq (.dr (.ops ref22_Step.r6 false) [26, 27, 28] []) (.cond (.t 29) .skip (.exit 0))) (.seq (.block 1 (.dr (.ops ref22_Step.r8 false) [29, 32, 33, 34, 35, 36, 37, 38, 39, 40, 41, 42] [])) (.dr (.ops ref22_Step.r7 false) [30, 31] [])))
def ref22_Step.c : ACode := (.seq (.dr (.ops ref22_Step.r0 false) [0, 6, 7, 8, 9] []) (.seq (.dr (.ops ref22_Step.r1 false) [1, 2, 15, 16, 17, 18, 19, 20, 21, 22] []) (.seq (.seq (.dr (.ops ref22_Step.r2 false) [23] []) (.cond (.t 24) (.seq (.dr (.ops ref22_Step.r3 false) [3, 10, 11, 12, 24, 25] []) .ret) .skip)) (.seq (.dr (.ops ref22_Step.r4 false) [12, 24] []) (.seq (.seq (.ops ref22_Step.r5 false) (.block 0 (.loop ref22_Step.l1))) (.seq (.dr (.ops ref22_Step.r9 true) [3, 10, 11, 13, 14, 29, 43, 44, 45, 46, 47, 48, 49] []) .ret))))))
def ref22_Step : AFn := ⟨3, ref22_Step.c, [.tmp 6, .tmp 7, .tmp 8, .tmp 9]⟩

/-! law22_light -/
def law22_light.r0 : List AI := [
  { dst := some 1, op := .box 1 (.t 0) },
  { dst := some 2, op := .mov (.c (.bool false)) }]
def law22_light.r1 : List AI := [
  { dst := some 4, op := .fadr (.t 1) 9 },
  { dst := some 5, op := .ld false 1 (.t 4) },
  { dst := some 6, op := .len (.t 5) },
  { dst := some 7, op := .bin .gtr (.t 6) (.c (.int .i64 (70))) },
  { dst := some 8, op := .mov (.t 7) },
  { dst := some 9, op := .fadr (.t 1) 10, guard := some (8, false) },
  { dst := some 10, op := .ld false 1 (.t 9), guard := some (8, false) },
  { dst := some 11, op := .len (.t 10), guard := some (8, false) },
  { dst := some 12, op := .bin .gtr (.t 11) (.c (.int .i64 (70))), guard := some (8, false) },
  { dst := some 13, op := .pick (.t 8) (.c (.bool true)) (.t 12) }]
def law22_light.r2 : List AI := [
  { dst := some 2, op := .mov (.c (.bool false)) }]
def law22_light.r3 : List AI := [
  { dst := some 3, op := .mov (.c (.int .i64 (0))) }]
def law22_light.r4 : List AI := [
  { dst := some 14, op := .mov (.t 3) },
  { dst := some 15, op := .fadr (.t 1) 9 },
  { dst := some 16, op := .ld false 1 (.t 15) },
  { dst := some 17, op := .len (.t 16) },
  { dst := some 18, op := .bin .lss (.t 14) (.t 17) }]
def law22_light.r6 : List AI := [
  { dst := some 21, op := .fadr (.t 1) 9 },
  { dst := some 22, op := .ld false 1 (.t 21) },
  { dst := some 23, op := .mov (.t 3) },
  { dst := some 24, op := .iadr none 1 (.t 22) (.t 23) },
  { dst := some 25, op := .fadr (.t 24) 0 },
  { dst := some 26, op := .ld false 1 (.t 25) },
  { dst := some 27, op := .len (.t 26) },
  { dst := some 28, op := .bin .gtr (.t 27) (.c (.int .i64 (70))) }]
def law22_light.r7 : List AI := [
  { dst := some 2, op := .mov (.c (.bool false)) }]
def law22_light.r5 : List AI := [
  { dst := some 19, op := .mov (.t 3) },
  { dst := some 20, op := .bin .add (.t 19) (.c (.int .i64 (1))) },
  { dst := some 3, op := .mov (.t 20) }]
def law22_light.r8 : List AI := [
  { dst := some 2, op := .mov (.c (.bool true)) }]
def law22_light.l1 : ACode := (.seq (.seq (.dr (.ops law22_light.r4 false) [14, 15, 16, 17] []) (.cond (.t 18) .skip (.exit 0))) (.seq (.block 1 (.seq (.dr (.ops law22_light.r6 false) [18, 21, 22, 23, 24, 25, 26, 27] []) (.cond (.t 28) (.seq (.dr (.ops law22_light.r7 false) [1, 3, 28] []) .ret) .skip))) (.dr (.ops law22_light.r5 false) [19, 20, 28] [])))
def law22_light.c : ACode := (.seq (.dr (.ops law22_light.r0 false) [0, 2] []) (.seq (.seq (.dr (.ops law22_light.r1 false) [4, 5, 6, 7, 8, 9, 10, 11, 12] []) (.cond (.t 13) (.seq (.dr (.ops law22_light.r2 false) [1, 13] []) .ret) .skip)) (.seq (.seq (.dr (.ops law22_light.r3 false) [13] []) (.block 0 (.loop law22_light.l1))) (.seq (.dr (.ops law22_light.r8 false) [1, 3, 18] []) .ret))))
def law22_light : AFn := ⟨1, law22_light.c, [.tmp 2]⟩

/-! law22_known -/
def law22_known.r0 : List AI := [
  { dst := some 0, op := .mov (.c (.bool false)) }]
def law22_known.r1 : List AI := [
  { dst := some 7, op := .build [(.int .i64 (0)), (.int .i64 (0)), (.int .i64 (0)), (.int .i64 (0))] [(0, 1, (.c (.int .i64 (8)))), (1, 1, (.c (.int .i64 (0)))), (2, 1, (.c (.int .i64 (1)))), (3, 1, (.c (.int .i64 (1))))] },
  { dst := some 1, op := .alloc 1 [(.int .i64 (0)), (.int .i64 (0)), (.int .i64 (0)), (.int .i64 (0))] },
  { dst := none, op := .st 4 (.t 1) (.t 7) }]
def law22_known.r2 : List AI := [
  { dst := some 8, op := .build [(.int .i64 (0)), (.int .i64 (0)), (.int .i64 (0)), (.int .i64 (0))] [(0, 1, (.c (.int .i64 (8)))), (1, 1, (.c (.int .i64 (1)))), (2, 1, (.c (.int .i64 (1)))), (3, 1, (.c (.int .i64 (1))))] },
  { dst := some 2, op := .alloc 2 [(.int .i64 (0)), (.int .i64 (0)), (.int .i64 (0)), (.int .i64 (0))] },
  { dst := none, op := .st 4 (.t 2) (.t 8) }]
def law22_known.r3 : List AI := [
  { dst := some 9, op := .ld true 4 (.t 1) },
  { dst := some 10, op := .ld true 4 (.t 2) },
  { dst := some 11, op := .build [(.int .i64 (0)), (.int .i64 (0))] [(1, 1, (.c (.int .i64 (3))))] },
  { dst := some 12, op := .bslice 12 2 [(.t 11)] },
  { dst := some 13, op := .build [.nil] [(0, 1, (.t 12))] },
  { dst := some 14, op := .bslice 14 1 [(.t 13)] },
  { dst := some 15, op := .build [(.int .i64 (0)), (.int .i64 (0)), (.int .i64 (0)), (.int .i64 (0)), (.int .i64 (0)), (.int .i64 (0)), (.int .i64 (0)), (.int .i64 (0)), (.int .i64 (0)), .nil, .nil, (.int .i64 (0))] [(0, 4, (.t 9)), (4, 4, (.t 10)), (9, 1, (.t 14)), (11, 1, (.c (.int .i64 (1))))] },
  { dst := some 3, op := .alloc 3 [(.int .i64 (0)), (.int .i64 (0)), (.int .i64 (0)), (.int .i64 (0)), (.int .i64 (0)), (.int .i64 (0)), (.int .i64 (0)), (.int .i64 (0)), (.int .i64 (0)), .nil, .nil, (.int .i64 (0))] },
  { dst := none, op := .st 12 (.t 3) (.t 15) }]
def law22_known.r4 : List AI := [
  { dst := some 17, op := .ld true 12 (.t 3) },
  { dst := some 18, op := .call 24 [(.t 17), (.c .nil), (.c (.int .i64 (5)))] },
  { dst := some 16, op := .mov (.t 18) },
  { dst := some 19, op := .ext (.t 16) 0 },
  { dst := some 20, op := .ext (.t 16) 1 },
  { dst := some 21, op := .ext (.t 16) 2 },
  { dst := some 4, op := .mov (.t 19) },
  { dst := some 5, op := .mov (.t 20) },
  { dst := some 6, op := .mov (.t 21) }]
def law22_known.r5 : List AI := [
  { dst := some 22, op := .mov (.t 6) },
  { dst := some 23, op := .bin .eql (.t 22) (.c (.int .i64 (0))) },
  { dst := some 24, op := .mov (.t 23) },
  { dst := some 25, op := .mov (.t 5), guard := some (24, true) },
  { dst := some 26, op := .un .not (.t 25), guard := some (24, true) },
  { dst := some 27, op := .pick (.t 24) (.t 26) (.c (.bool false)) },
  { dst := some 28, op := .mov (.t 27) },
  { dst := some 29, op := .mov (.t 4), guard := some (28, true) },
  { dst := some 30, op := .len (.t 29), guard := some (28, true) },
  { dst := some 31, op := .bin .eql (.t 30) (.c (.int .i64 (2))), guard := some (28, true) },
  { dst := some 32, op := .pick (.t 28) (.t 31) (.c (.bool false)) },
  { dst := some 33, op := .mov (.t 32) },
  { dst := some 34, op := .mov (.t 4), guard := some (33, true) },
  { dst := some 35, op := .iadr none 1 (.t 34) (.c (.int .i64 (1))), guard := some (33, true) },
  { dst := some 36, op := .ld false 1 (.t 35), guard := some (33, true) },
  { dst := some 37, op := .bin .eql (.t 36) (.c (.int .i64 (7))), guard := some (33, true) },
  { dst := some 38, op := .pick (.t 33) (.t 37) (.c (.bool false)) },
  { dst := some 0, op := .mov (.t 38) }]
def law22_known.c : ACode := (.seq (.dr (.ops law22_known.r0 false) [0] []) (.seq (.dr (.ops law22_known.r1 false) [7] []) (.seq (.dr (.ops law22_known.r2 false) [8] []) (.seq (.dr (.ops law22_known.r3 false) [1, 2, 9, 10, 11, 12, 13, 14, 15] []) (.seq (.dr (.ops law22_known.r4 false) [3, 16, 17, 18, 19, 20, 21] []) (.seq (.dr (.ops law22_known.r5 false) [4, 5, 6, 22, 23, 24, 25, 26, 27, 28, 29, 30, 31, 32, 33, 34, 35, 36, 37, 38] []) .ret))))))
def law22_known : AFn := ⟨0, law22_known.c, [.tmp 0]⟩

/-- a library has these functions -/
structure NetLib (L : Lib) : Prop extends FixedLib L where
  network_Valid : L 21 = some F.network_Valid
  network_wrong : L 22 = some F.network_wrong
  network_compute : L 23 = some F.network_compute
  network_Values : L 24 = some F.network_Values
  network_follow : L 25 = some F.network_follow
  network_Step : L 26 = some F.network_Step
  ref22_Valid : L 27 = some F.ref22_Valid
  ref22_total : L 28 = some F.ref22_total
  ref22_Values : L 29 = some F.ref22_Values
  ref22_Step : L 30 = some F.ref22_Step
  law22_light : L 31 = some F.law22_light
  law22_known : L 32 = some F.law22_known
def NetList : List (Nat × AFn) := [(21, F.network_Valid), (22, F.network_wrong), (23, F.network_compute), (24, F.network_Values), (25, F.network_follow), (26, F.network_Step), (27, F.ref22_Valid), (28, F.ref22_total), (29, F.ref22_Values), (30, F.ref22_Step), (31, F.law22_light), (32, F.law22_known)]

end Go.Eng.F
