/-
  Functions of the program, as the abstract machine reads them (group LawD). Written by a program (gen.py) off the model's own reading of the translation; the seat's check ties them to it.
-/
import Derived.Test.YtlkfmmfmefobnaaEngCore
import Derived.Test.YtlkfmmfmefobnaaEngDirectG
set_option linter.unusedSimpArgs false
set_option linter.unusedVariables false
set_option linter.unnecessarySimpa false
namespace Go.Eng.F

/-! law23_DirectRecurs -/
def law23_DirectRecurs.r0 : List AI := [
  { dst := some 10, op := .mov (.c (.bool false)) }]
def law23_DirectRecurs.r1 : List AI := [
  { dst := some 27, op := .mov (.t 4) },
  { dst := some 28, op := .len (.t 27) },
  { dst := some 29, op := .bin .gtr (.t 28) (.c (.int .i64 (40))) }]
def law23_DirectRecurs.r2 : List AI := [
  { dst := some 30, op := .call 54 [] },
  { dst := some 10, op := .mov (.t 30) }]
def law23_DirectRecurs.r3 : List AI := [
  { dst := some 31, op := .mov (.t 0) },
  { dst := some 32, op := .call 37 [(.t 31)] },
  { dst := some 33, op := .mov (.t 1) },
  { dst := some 34, op := .call 38 [(.t 33)] },
  { dst := some 11, op := .alloc 11 [(.int .i64 (0)), (.int .i64 (0)), (.int .i64 (0)), (.int .i64 (0))] },
  { dst := some 12, op := .alloc 12 [(.int .i64 (0)), (.int .i64 (0)), (.int .i64 (0)), (.int .i64 (0))] },
  { dst := none, op := .st 4 (.t 11) (.t 32) },
  { dst := none, op := .st 4 (.t 12) (.t 34) }]
def law23_DirectRecurs.r4 : List AI := [
  { dst := some 35, op := .fadr (.t 12) 0 },
  { dst := some 36, op := .ld false 1 (.t 35) },
  { dst := some 37, op := .bin .sub (.t 36) (.c (.int .i64 (1))) },
  { dst := some 38, op := .conv .u64 (.t 37) },
  { dst := some 39, op := .bin .shl (.c (.int .i64 (1))) (.t 38) },
  { dst := some 40, op := .bin .sub (.t 39) (.c (.int .i64 (1))) },
  { dst := some 41, op := .mov (.t 2) },
  { dst := some 42, op := .mov (.t 2) },
  { dst := some 43, op := .len (.t 42) },
  { dst := some 44, op := .call 34 [(.t 43), (.c (.int .i64 (4)))] },
  { dst := some 45, op := .bin .add (.c (.int .i64 (1))) (.t 44) },
  { dst := some 46, op := .call 40 [(.t 40), (.t 41), (.t 45)] },
  { dst := some 13, op := .mov (.t 46) }]
def law23_DirectRecurs.r5 : List AI := [
  { dst := some 47, op := .fadr (.t 12) 0 },
  { dst := some 48, op := .ld false 1 (.t 47) },
  { dst := some 49, op := .bin .sub (.t 48) (.c (.int .i64 (1))) },
  { dst := some 50, op := .conv .u64 (.t 49) },
  { dst := some 51, op := .bin .shl (.c (.int .i64 (1))) (.t 50) },
  { dst := some 52, op := .bin .sub (.t 51) (.c (.int .i64 (1))) },
  { dst := some 53, op := .mov (.t 3) },
  { dst := some 54, op := .mov (.t 3) },
  { dst := some 55, op := .len (.t 54) },
  { dst := some 56, op := .call 34 [(.t 55), (.c (.int .i64 (4)))] },
  { dst := some 57, op := .call 40 [(.t 52), (.t 53), (.t 56)] },
  { dst := some 14, op := .mov (.t 57) }]
def law23_DirectRecurs.r6 : List AI := [
  { dst := some 58, op := .ld true 4 (.t 11) },
  { dst := some 59, op := .mov (.t 4) },
  { dst := some 60, op := .mov (.t 4) },
  { dst := some 61, op := .len (.t 60) },
  { dst := some 62, op := .call 39 [(.t 58), (.t 59), (.t 61)] },
  { dst := some 15, op := .mov (.t 62) }]
def law23_DirectRecurs.r7 : List AI := [
  { dst := some 64, op := .mov (.t 13) },
  { dst := some 65, op := .mov (.t 14) },
  { dst := some 66, op := .ld true 4 (.t 11) },
  { dst := some 67, op := .ld true 4 (.t 12) },
  { dst := some 68, op := .call 50 [(.t 64), (.t 65), (.t 66), (.t 67)] },
  { dst := some 63, op := .mov (.t 68) },
  { dst := some 69, op := .ext (.t 63) 0 },
  { dst := some 70, op := .ext (.t 63) 1 },
  { dst := some 16, op := .alloc 16 [(.int .i64 (0)), (.int .i64 (0)), (.int .i64 (0)), (.int .i64 (0)), (.int .i64 (0)), (.int .i64 (0)), (.int .i64 (0)), (.int .i64 (0)), (.int .i64 (0)), .nil, .nil, (.int .i64 (0))] },
  { dst := none, op := .st 12 (.t 16) (.t 69) },
  { dst := some 17, op := .mov (.t 70) }]
def law23_DirectRecurs.r8 : List AI := [
  { dst := some 72, op := .ld true 12 (.t 16), ban := [79] },
  { dst := some 73, op := .mov (.t 13) },
  { dst := some 74, op := .len (.t 73) },
  { dst := some 75, op := .bin .sub (.t 74) (.c (.int .i64 (1))) },
  { dst := some 76, op := .mov (.t 14) },
  { dst := some 77, op := .len (.t 76) },
  { dst := some 78, op := .bin .add (.t 75) (.t 77) },
  { dst := some 79, op := .mk 79 1 8 [(.int .i64 (0))] (.t 78) (.t 78) },
  { dst := some 80, op := .mov (.t 15) },
  { dst := some 81, op := .call 43 [(.t 72), (.t 79), (.t 80)] },
  { dst := some 71, op := .mov (.t 81) },
  { dst := some 82, op := .ext (.t 71) 0 },
  { dst := some 83, op := .ext (.t 71) 1 },
  { dst := some 84, op := .ext (.t 71) 2 },
  { dst := some 85, op := .ext (.t 71) 3 },
  { dst := some 18, op := .mov (.t 82) },
  { dst := some 19, op := .mov (.t 83) },
  { dst := some 20, op := .mov (.t 84) },
  { dst := some 21, op := .mov (.t 85) }]
def law23_DirectRecurs.r9 : List AI := [
  { dst := some 22, op := .vrow 22 1 }]
def law23_DirectRecurs.r10 : List AI := [
  { dst := some 23, op := .mov (.c (.int .i64 (0))) }]
def law23_DirectRecurs.r11 : List AI := [
  { dst := some 86, op := .mov (.t 23) },
  { dst := some 87, op := .mov (.t 15) },
  { dst := some 88, op := .len (.t 87) },
  { dst := some 89, op := .bin .lss (.t 86) (.t 88) }]
def law23_DirectRecurs.r13 : List AI := [
  { dst := some 24, op := .mov (.c (.int .i64 (0))) }]
def law23_DirectRecurs.r14 : List AI := [
  { dst := some 25, op := .mov (.c (.int .i64 (0))) }]
def law23_DirectRecurs.r15 : List AI := [
  { dst := some 92, op := .mov (.t 25) },
  { dst := some 93, op := .mov (.t 13) },
  { dst := some 94, op := .len (.t 93) },
  { dst := some 95, op := .bin .lss (.t 92) (.t 94) },
  { dst := some 96, op := .mov (.t 95) },
  { dst := some 97, op := .mov (.t 25), guard := some (96, true) },
  { dst := some 98, op := .mov (.t 23), guard := some (96, true) },
  { dst := some 99, op := .bin .leq (.t 97) (.t 98), guard := some (96, true) },
  { dst := some 100, op := .pick (.t 96) (.t 99) (.c (.bool false)) }]
def law23_DirectRecurs.r17 : List AI := [
  { dst := some 103, op := .mov (.t 24) },
  { dst := some 104, op := .mov (.t 13) },
  { dst := some 105, op := .mov (.t 25) },
  { dst := some 106, op := .iadr none 1 (.t 104) (.t 105) },
  { dst := some 107, op := .ld false 1 (.t 106) },
  { dst := some 108, op := .mov (.t 15) },
  { dst := some 109, op := .mov (.t 23) },
  { dst := some 110, op := .mov (.t 25) },
  { dst := some 111, op := .bin .sub (.t 109) (.t 110) },
  { dst := some 112, op := .iadr none 1 (.t 108) (.t 111) },
  { dst := some 113, op := .ld false 1 (.t 112) },
  { dst := some 114, op := .bin .mul (.t 107) (.t 113) },
  { dst := some 115, op := .bin .add (.t 103) (.t 114) },
  { dst := some 24, op := .mov (.t 115) }]
def law23_DirectRecurs.r16 : List AI := [
  { dst := some 101, op := .mov (.t 25) },
  { dst := some 102, op := .bin .add (.t 101) (.c (.int .i64 (1))) },
  { dst := some 25, op := .mov (.t 102) }]
def law23_DirectRecurs.r18 : List AI := [
  { dst := some 26, op := .mov (.c (.int .i64 (0))) }]
def law23_DirectRecurs.r19 : List AI := [
  { dst := some 116, op := .mov (.t 26) },
  { dst := some 117, op := .mov (.t 14) },
  { dst := some 118, op := .len (.t 117) },
  { dst := some 119, op := .bin .lss (.t 116) (.t 118) },
  { dst := some 120, op := .mov (.t 119) },
  { dst := some 121, op := .mov (.t 26), guard := some (120, true) },
  { dst := some 122, op := .mov (.t 23), guard := some (120, true) },
  { dst := some 123, op := .bin .lss (.t 121) (.t 122), guard := some (120, true) },
  { dst := some 124, op := .pick (.t 120) (.t 123) (.c (.bool false)) }]
def law23_DirectRecurs.r21 : List AI := [
  { dst := some 127, op := .mov (.t 24) },
  { dst := some 128, op := .mov (.t 14) },
  { dst := some 129, op := .mov (.t 26) },
  { dst := some 130, op := .iadr none 1 (.t 128) (.t 129) },
  { dst := some 131, op := .ld false 1 (.t 130) },
  { dst := some 132, op := .mov (.t 22) },
  { dst := some 133, op := .mov (.t 23) },
  { dst := some 134, op := .bin .sub (.t 133) (.c (.int .i64 (1))) },
  { dst := some 135, op := .mov (.t 26) },
  { dst := some 136, op := .bin .sub (.t 134) (.t 135) },
  { dst := some 137, op := .iadr none 1 (.t 132) (.t 136) },
  { dst := some 138, op := .ld false 1 (.t 137) },
  { dst := some 139, op := .bin .mul (.t 131) (.t 138) },
  { dst := some 140, op := .bin .sub (.t 127) (.t 139) },
  { dst := some 24, op := .mov (.t 140) }]
def law23_DirectRecurs.r20 : List AI := [
  { dst := some 125, op := .mov (.t 26) },
  { dst := some 126, op := .bin .add (.t 125) (.c (.int .i64 (1))) },
  { dst := some 26, op := .mov (.t 126) }]
def law23_DirectRecurs.r22 : List AI := [
  { dst := some 141, op := .mov (.t 22) },
  { dst := some 142, op := .ld true 4 (.t 11) },
  { dst := some 143, op := .mov (.t 24) },
  { dst := some 144, op := .fadr (.t 12) 1 },
  { dst := some 145, op := .ld false 1 (.t 144) },
  { dst := some 146, op := .fadr (.t 11) 2 },
  { dst := some 147, op := .ld false 1 (.t 146) },
  { dst := some 148, op := .call 18 [(.t 143), (.t 145), (.t 147)] },
  { dst := some 149, op := .call 17 [(.t 142), (.t 148)] },
  { dst := some 150, op := .bslice 150 1 [(.t 149)] },
  { dst := some 151, op := .app 151 1 8 (.t 141) (.t 150) },
  { dst := some 22, op := .mov (.t 151) }]
def law23_DirectRecurs.r12 : List AI := [
  { dst := some 90, op := .mov (.t 23) },
  { dst := some 91, op := .bin .add (.t 90) (.c (.int .i64 (1))) },
  { dst := some 23, op := .mov (.t 91) }]
def law23_DirectRecurs.r23 : List AI := [
  { dst := some 152, op := .call 54 [] },
  { dst := some 153, op := .mov (.t 152) },
  { dst := some 154, op := .mov (.t 17), guard := some (153, true) },
  { dst := some 155, op := .bin .eql (.t 154) (.c (.int .i64 (0))), guard := some (153, true) },
  { dst := some 156, op := .pick (.t 153) (.t 155) (.c (.bool false)) },
  { dst := some 157, op := .mov (.t 156) },
  { dst := some 158, op := .mov (.t 21), guard := some (157, true) },
  { dst := some 159, op := .bin .eql (.t 158) (.c (.int .i64 (0))), guard := some (157, true) },
  { dst := some 160, op := .pick (.t 157) (.t 159) (.c (.bool false)) },
  { dst := some 161, op := .mov (.t 160) },
  { dst := some 162, op := .mov (.t 18), guard := some (161, true) },
  { dst := some 163, op := .mov (.t 22), guard := some (161, true) },
  { dst := some 164, op := .call 20 [(.t 162), (.t 163)], guard := some (161, true) },
  { dst := some 165, op := .pick (.t 161) (.t 164) (.c (.bool false)) },
  { dst := some 10, op := .mov (.t 165) }]
def law23_DirectRecurs.l2 : ACode := (.seq (.seq (.dr (.ops law23_DirectRecurs.r15 false) [92, 93, 94, 95, 96, 97, 98, 99] []) (.cond (.t 100) .skip (.exit 2))) (.seq (.block 3 (.dr (.ops law23_DirectRecurs.r17 true) [100, 103, 104, 105, 106, 107, 108, 109, 110, 111, 112, 113, 114, 115] [])) (.dr (.ops law23_DirectRecurs.r16 false) [101, 102] [])))
def law23_DirectRecurs.l3 : ACode := (.seq (.seq (.dr (.ops law23_DirectRecurs.r19 false) [116, 117, 118, 119, 120, 121, 122, 123] []) (.cond (.t 124) .skip (.exit 4))) (.seq (.block 5 (.dr (.ops law23_DirectRecurs.r21 true) [124, 127, 128, 129, 130, 131, 132, 133, 134, 135, 136, 137, 138, 139, 140] [])) (.dr (.ops law23_DirectRecurs.r20 false) [125, 126] [])))
def law23_DirectRecurs.l1 : ACode := (.seq (.seq (.dr (.ops law23_DirectRecurs.r11 false) [86, 87, 88] []) (.cond (.t 89) .skip (.exit 0))) (.seq (.block 1 (.seq (.dr (.ops law23_DirectRecurs.r13 false) [89] []) (.seq (.seq (.ops law23_DirectRecurs.r14 false) (.block 2 (.loop law23_DirectRecurs.l2))) (.seq (.seq (.dr (.ops law23_DirectRecurs.r18 false) [25, 100] []) (.block 4 (.loop law23_DirectRecurs.l3))) (.dr (.ops law23_DirectRecurs.r22 true) [24, 26, 124, 141, 142, 143, 144, 145, 146, 147, 148, 149, 150, 151] []))))) (.dr (.ops law23_DirectRecurs.r12 false) [90, 91] [])))
def law23_DirectRecurs.c : ACode := (.seq (.dr (.ops law23_DirectRecurs.r0 false) [10] []) (.seq (.seq (.dr (.ops law23_DirectRecurs.r1 false) [27, 28] []) (.cond (.t 29) (.seq (.dr (.ops law23_DirectRecurs.r2 false) [0, 1, 2, 3, 4, 29, 30] []) .ret) .skip)) (.seq (.dr (.ops law23_DirectRecurs.r3 false) [0, 1, 29, 31, 32, 33, 34] []) (.seq (.dr (.ops law23_DirectRecurs.r4 true) [2, 35, 36, 37, 38, 39, 40, 41, 42, 43, 44, 45, 46] []) (.seq (.dr (.ops law23_DirectRecurs.r5 true) [3, 47, 48, 49, 50, 51, 52, 53, 54, 55, 56, 57] []) (.seq (.dr (.ops law23_DirectRecurs.r6 false) [4, 58, 59, 60, 61, 62] []) (.seq (.dr (.ops law23_DirectRecurs.r7 false) [63, 64, 65, 66, 67, 68, 69, 70] []) (.seq (.dr (.ops law23_DirectRecurs.r8 true) [16, 19, 20, 71, 72, 73, 74, 75, 76, 77, 78, 79, 80, 81, 82, 83, 84, 85] []) (.seq (.ops law23_DirectRecurs.r9 false) (.seq (.seq (.ops law23_DirectRecurs.r10 false) (.block 0 (.loop law23_DirectRecurs.l1))) (.seq (.dr (.ops law23_DirectRecurs.r23 false) [11, 12, 13, 14, 15, 17, 18, 21, 22, 23, 89, 152, 153, 154, 155, 156, 157, 158, 159, 160, 161, 162, 163, 164, 165] []) .ret)))))))))))
def law23_DirectRecurs : AFn := ⟨5, law23_DirectRecurs.c, [.tmp 10]⟩

/-! law23_DirectScales -/
def law23_DirectScales.r0 : List AI := [
  { dst := some 8, op := .mov (.c (.bool false)) }]
def law23_DirectScales.r1 : List AI := [
  { dst := some 27, op := .mov (.t 3) },
  { dst := some 28, op := .len (.t 27) },
  { dst := some 29, op := .bin .gtr (.t 28) (.c (.int .i64 (30))) }]
def law23_DirectScales.r2 : List AI := [
  { dst := some 30, op := .call 54 [] },
  { dst := some 8, op := .mov (.t 30) }]
def law23_DirectScales.r3 : List AI := [
  { dst := some 31, op := .mov (.t 0) },
  { dst := some 32, op := .call 37 [(.t 31)] },
  { dst := some 33, op := .mov (.t 1) },
  { dst := some 34, op := .call 38 [(.t 33)] },
  { dst := some 9, op := .alloc 9 [(.int .i64 (0)), (.int .i64 (0)), (.int .i64 (0)), (.int .i64 (0))] },
  { dst := some 10, op := .alloc 10 [(.int .i64 (0)), (.int .i64 (0)), (.int .i64 (0)), (.int .i64 (0))] },
  { dst := none, op := .st 4 (.t 9) (.t 32) },
  { dst := none, op := .st 4 (.t 10) (.t 34) }]
def law23_DirectScales.r4 : List AI := [
  { dst := some 11, op := .vrow 11 1 }]
def law23_DirectScales.r5 : List AI := [
  { dst := some 12, op := .mov (.c (.int .i64 (0))) }]
def law23_DirectScales.r6 : List AI := [
  { dst := some 35, op := .mov (.t 12) },
  { dst := some 36, op := .mov (.t 2) },
  { dst := some 37, op := .len (.t 36) },
  { dst := some 38, op := .call 34 [(.t 37), (.c (.int .i64 (4)))] },
  { dst := some 39, op := .bin .add (.c (.int .i64 (1))) (.t 38) },
  { dst := some 40, op := .bin .lss (.t 35) (.t 39) }]
def law23_DirectScales.r8 : List AI := [
  { dst := some 43, op := .mov (.t 11) },
  { dst := some 44, op := .ld true 4 (.t 10) },
  { dst := some 45, op := .call 41 [(.t 44)] },
  { dst := some 46, op := .un .neg (.t 45) },
  { dst := some 47, op := .mov (.t 2) },
  { dst := some 48, op := .mov (.t 12) },
  { dst := some 49, op := .call 35 [(.t 47), (.t 48)] },
  { dst := some 50, op := .call 34 [(.t 49), (.c (.int .i64 (2)))] },
  { dst := some 51, op := .bin .mul (.t 46) (.t 50) },
  { dst := some 52, op := .bslice 52 1 [(.t 51)] },
  { dst := some 53, op := .app 53 1 8 (.t 43) (.t 52) },
  { dst := some 11, op := .mov (.t 53) }]
def law23_DirectScales.r7 : List AI := [
  { dst := some 41, op := .mov (.t 12) },
  { dst := some 42, op := .bin .add (.t 41) (.c (.int .i64 (1))) },
  { dst := some 12, op := .mov (.t 42) }]
def law23_DirectScales.r9 : List AI := [
  { dst := some 54, op := .mov (.t 3) },
  { dst := some 55, op := .mov (.t 3) },
  { dst := some 56, op := .len (.t 55) },
  { dst := some 57, op := .call 40 [(.c (.int .i64 (2))), (.t 54), (.t 56)] },
  { dst := some 13, op := .mov (.t 57) }]
def law23_DirectScales.r10 : List AI := [
  { dst := some 14, op := .vrow 14 1 }]
def law23_DirectScales.r11 : List AI := [
  { dst := some 15, op := .mov (.c (.int .i64 (0))) }]
def law23_DirectScales.r12 : List AI := [
  { dst := some 58, op := .mov (.t 15) },
  { dst := some 59, op := .mov (.t 13) },
  { dst := some 60, op := .len (.t 59) },
  { dst := some 61, op := .bin .lss (.t 58) (.t 60) }]
def law23_DirectScales.r14 : List AI := [
  { dst := some 64, op := .mov (.t 14) },
  { dst := some 65, op := .mov (.t 13) },
  { dst := some 66, op := .mov (.t 15) },
  { dst := some 67, op := .iadr none 1 (.t 65) (.t 66) },
  { dst := some 68, op := .ld false 1 (.t 67) },
  { dst := some 69, op := .bin .mul (.c (.int .i64 (2))) (.t 68) },
  { dst := some 70, op := .bslice 70 1 [(.t 69)] },
  { dst := some 71, op := .app 71 1 8 (.t 64) (.t 70) },
  { dst := some 14, op := .mov (.t 71) }]
def law23_DirectScales.r13 : List AI := [
  { dst := some 62, op := .mov (.t 15) },
  { dst := some 63, op := .bin .add (.t 62) (.c (.int .i64 (1))) },
  { dst := some 15, op := .mov (.t 63) }]
def law23_DirectScales.r15 : List AI := [
  { dst := some 73, op := .mov (.t 11) },
  { dst := some 74, op := .ld true 4 (.t 9) },
  { dst := some 75, op := .ld true 4 (.t 10) },
  { dst := some 76, op := .call 53 [(.t 73), (.t 74), (.t 75)] },
  { dst := some 72, op := .mov (.t 76) },
  { dst := some 77, op := .ext (.t 72) 0 },
  { dst := some 78, op := .ext (.t 72) 1 },
  { dst := some 16, op := .alloc 16 [(.int .i64 (0)), (.int .i64 (0)), (.int .i64 (0)), (.int .i64 (0)), (.int .i64 (0)), (.int .i64 (0)), (.int .i64 (0)), (.int .i64 (0)), (.int .i64 (0)), .nil, .nil, (.int .i64 (0))] },
  { dst := none, op := .st 12 (.t 16) (.t 77) },
  { dst := some 17, op := .mov (.t 78) }]
def law23_DirectScales.r16 : List AI := [
  { dst := some 80, op := .ld true 12 (.t 16), ban := [84] },
  { dst := some 81, op := .mov (.t 11) },
  { dst := some 82, op := .len (.t 81) },
  { dst := some 83, op := .bin .sub (.t 82) (.c (.int .i64 (1))) },
  { dst := some 84, op := .mk 84 1 8 [(.int .i64 (0))] (.t 83) (.t 83) },
  { dst := some 85, op := .mov (.t 13) },
  { dst := some 86, op := .call 43 [(.t 80), (.t 84), (.t 85)] },
  { dst := some 79, op := .mov (.t 86) },
  { dst := some 87, op := .ext (.t 79) 0 },
  { dst := some 88, op := .ext (.t 79) 1 },
  { dst := some 89, op := .ext (.t 79) 2 },
  { dst := some 90, op := .ext (.t 79) 3 },
  { dst := some 18, op := .mov (.t 87) },
  { dst := some 19, op := .mov (.t 88) },
  { dst := some 20, op := .mov (.t 89) },
  { dst := some 21, op := .mov (.t 90) }]
def law23_DirectScales.r17 : List AI := [
  { dst := some 92, op := .ld true 12 (.t 16), ban := [96] },
  { dst := some 93, op := .mov (.t 11) },
  { dst := some 94, op := .len (.t 93) },
  { dst := some 95, op := .bin .sub (.t 94) (.c (.int .i64 (1))) },
  { dst := some 96, op := .mk 96 1 8 [(.int .i64 (0))] (.t 95) (.t 95) },
  { dst := some 97, op := .mov (.t 14) },
  { dst := some 98, op := .call 43 [(.t 92), (.t 96), (.t 97)] },
  { dst := some 91, op := .mov (.t 98) },
  { dst := some 99, op := .ext (.t 91) 0 },
  { dst := some 100, op := .ext (.t 91) 1 },
  { dst := some 101, op := .ext (.t 91) 2 },
  { dst := some 102, op := .ext (.t 91) 3 },
  { dst := some 22, op := .mov (.t 99) },
  { dst := some 23, op := .mov (.t 100) },
  { dst := some 24, op := .mov (.t 101) },
  { dst := some 25, op := .mov (.t 102) }]
def law23_DirectScales.r18 : List AI := [
  { dst := some 103, op := .mov (.t 17) },
  { dst := some 104, op := .bin .neq (.t 103) (.c (.int .i64 (0))) },
  { dst := some 105, op := .mov (.t 104) },
  { dst := some 106, op := .mov (.t 21), guard := some (105, false) },
  { dst := some 107, op := .bin .neq (.t 106) (.c (.int .i64 (0))), guard := some (105, false) },
  { dst := some 108, op := .pick (.t 105) (.c (.bool true)) (.t 107) },
  { dst := some 109, op := .mov (.t 108) },
  { dst := some 110, op := .mov (.t 25), guard := some (109, false) },
  { dst := some 111, op := .bin .neq (.t 110) (.c (.int .i64 (0))), guard := some (109, false) },
  { dst := some 112, op := .pick (.t 109) (.c (.bool true)) (.t 111) },
  { dst := some 113, op := .mov (.t 112) },
  { dst := some 114, op := .mov (.t 18), guard := some (113, false) },
  { dst := some 115, op := .len (.t 114), guard := some (113, false) },
  { dst := some 116, op := .mov (.t 22), guard := some (113, false) },
  { dst := some 117, op := .len (.t 116), guard := some (113, false) },
  { dst := some 118, op := .bin .neq (.t 115) (.t 117), guard := some (113, false) },
  { dst := some 119, op := .pick (.t 113) (.c (.bool true)) (.t 118) }]
def law23_DirectScales.r19 : List AI := [
  { dst := some 8, op := .mov (.c (.bool false)) }]
def law23_DirectScales.r20 : List AI := [
  { dst := some 26, op := .mov (.c (.int .i64 (0))) }]
def law23_DirectScales.r21 : List AI := [
  { dst := some 120, op := .mov (.t 26) },
  { dst := some 121, op := .mov (.t 18) },
  { dst := some 122, op := .len (.t 121) },
  { dst := some 123, op := .bin .lss (.t 120) (.t 122) }]
def law23_DirectScales.r23 : List AI := [
  { dst := some 126, op := .mov (.t 20) },
  { dst := some 127, op := .mov (.t 24) },
  { dst := some 128, op := .bin .add (.t 126) (.t 127) },
  { dst := some 129, op := .bin .eql (.t 128) (.c (.int .i64 (0))) },
  { dst := some 130, op := .mov (.t 129) },
  { dst := some 131, op := .mov (.t 18), guard := some (130, true) },
  { dst := some 132, op := .mov (.t 26), guard := some (130, true) },
  { dst := some 133, op := .iadr none 1 (.t 131) (.t 132), guard := some (130, true) },
  { dst := some 134, op := .ld false 1 (.t 133), guard := some (130, true) },
  { dst := some 135, op := .bin .mul (.c (.int .i64 (2))) (.t 134), guard := some (130, true) },
  { dst := some 136, op := .mov (.t 22), guard := some (130, true) },
  { dst := some 137, op := .mov (.t 26), guard := some (130, true) },
  { dst := some 138, op := .iadr none 1 (.t 136) (.t 137), guard := some (130, true) },
  { dst := some 139, op := .ld false 1 (.t 138), guard := some (130, true) },
  { dst := some 140, op := .bin .neq (.t 135) (.t 139), guard := some (130, true) },
  { dst := some 141, op := .pick (.t 130) (.t 140) (.c (.bool false)) }]
def law23_DirectScales.r24 : List AI := [
  { dst := some 8, op := .mov (.c (.bool false)) }]
def law23_DirectScales.r22 : List AI := [
  { dst := some 124, op := .mov (.t 26) },
  { dst := some 125, op := .bin .add (.t 124) (.c (.int .i64 (1))) },
  { dst := some 26, op := .mov (.t 125) }]
def law23_DirectScales.r25 : List AI := [
  { dst := some 142, op := .call 54 [] },
  { dst := some 8, op := .mov (.t 142) }]
def law23_DirectScales.l1 : ACode := (.seq (.seq (.dr (.ops law23_DirectScales.r6 false) [35, 36, 37, 38, 39] []) (.cond (.t 40) .skip (.exit 0))) (.seq (.block 1 (.dr (.ops law23_DirectScales.r8 false) [40, 43, 44, 45, 46, 47, 48, 49, 50, 51, 52, 53] [])) (.dr (.ops law23_DirectScales.r7 false) [41, 42] [])))
def law23_DirectScales.l2 : ACode := (.seq (.seq (.dr (.ops law23_DirectScales.r12 false) [58, 59, 60] []) (.cond (.t 61) .skip (.exit 2))) (.seq (.block 3 (.dr (.ops law23_DirectScales.r14 false) [61, 64, 65, 66, 67, 68, 69, 70, 71] [])) (.dr (.ops law23_DirectScales.r13 false) [62, 63] [])))
def law23_DirectScales.l3 : ACode := (.seq (.seq (.dr (.ops law23_DirectScales.r21 false) [120, 121, 122] []) (.cond (.t 123) .skip (.exit 4))) (.seq (.block 5 (.seq (.dr (.ops law23_DirectScales.r23 true) [123, 126, 127, 128, 129, 130, 131, 132, 133, 134, 135, 136, 137, 138, 139, 140] []) (.cond (.t 141) (.seq (.dr (.ops law23_DirectScales.r24 false) [18, 20, 22, 24, 26, 141] []) .ret) .skip))) (.dr (.ops law23_DirectScales.r22 false) [124, 125, 141] [])))
def law23_DirectScales.c : ACode := (.seq (.dr (.ops law23_DirectScales.r0 false) [8] []) (.seq (.seq (.dr (.ops law23_DirectScales.r1 false) [27, 28] []) (.cond (.t 29) (.seq (.dr (.ops law23_DirectScales.r2 false) [0, 1, 2, 3, 29, 30] []) .ret) .skip)) (.seq (.dr (.ops law23_DirectScales.r3 false) [0, 1, 29, 31, 32, 33, 34] []) (.seq (.ops law23_DirectScales.r4 false) (.seq (.seq (.ops law23_DirectScales.r5 false) (.block 0 (.loop law23_DirectScales.l1))) (.seq (.dr (.ops law23_DirectScales.r9 false) [2, 3, 12, 40, 54, 55, 56, 57] []) (.seq (.ops law23_DirectScales.r10 false) (.seq (.seq (.ops law23_DirectScales.r11 false) (.block 2 (.loop law23_DirectScales.l2))) (.seq (.dr (.ops law23_DirectScales.r15 false) [9, 10, 15, 61, 72, 73, 74, 75, 76, 77, 78] []) (.seq (.dr (.ops law23_DirectScales.r16 true) [13, 19, 79, 80, 81, 82, 83, 84, 85, 86, 87, 88, 89, 90] []) (.seq (.dr (.ops law23_DirectScales.r17 true) [11, 14, 16, 23, 91, 92, 93, 94, 95, 96, 97, 98, 99, 100, 101, 102] []) (.seq (.seq (.dr (.ops law23_DirectScales.r18 false) [17, 21, 25, 103, 104, 105, 106, 107, 108, 109, 110, 111, 112, 113, 114, 115, 116, 117, 118] []) (.cond (.t 119) (.seq (.dr (.ops law23_DirectScales.r19 false) [18, 20, 22, 24, 119] []) .ret) .skip)) (.seq (.seq (.dr (.ops law23_DirectScales.r20 false) [119] []) (.block 4 (.loop law23_DirectScales.l3))) (.seq (.dr (.ops law23_DirectScales.r25 false) [18, 20, 22, 24, 26, 123, 142] []) .ret))))))))))))))
def law23_DirectScales : AFn := ⟨4, law23_DirectScales.c, [.tmp 8]⟩

/-! law23_DirectFormsAgree -/
def law23_DirectFormsAgree.r0 : List AI := [
  { dst := some 8, op := .mov (.c (.bool false)) }]
def law23_DirectFormsAgree.r1 : List AI := [
  { dst := some 34, op := .mov (.t 3) },
  { dst := some 35, op := .len (.t 34) },
  { dst := some 36, op := .bin .gtr (.t 35) (.c (.int .i64 (30))) }]
def law23_DirectFormsAgree.r2 : List AI := [
  { dst := some 37, op := .call 54 [] },
  { dst := some 8, op := .mov (.t 37) }]
def law23_DirectFormsAgree.r3 : List AI := [
  { dst := some 38, op := .mov (.t 0) },
  { dst := some 39, op := .call 37 [(.t 38)] },
  { dst := some 40, op := .mov (.t 1) },
  { dst := some 41, op := .call 38 [(.t 40)] },
  { dst := some 9, op := .alloc 9 [(.int .i64 (0)), (.int .i64 (0)), (.int .i64 (0)), (.int .i64 (0))] },
  { dst := some 10, op := .alloc 10 [(.int .i64 (0)), (.int .i64 (0)), (.int .i64 (0)), (.int .i64 (0))] },
  { dst := none, op := .st 4 (.t 9) (.t 39) },
  { dst := none, op := .st 4 (.t 10) (.t 41) }]
def law23_DirectFormsAgree.r4 : List AI := [
  { dst := some 42, op := .ld true 4 (.t 10) },
  { dst := some 43, op := .call 41 [(.t 42)] },
  { dst := some 11, op := .mov (.t 43) }]
def law23_DirectFormsAgree.r5 : List AI := [
  { dst := some 12, op := .vrow 12 1 }]
def law23_DirectFormsAgree.r6 : List AI := [
  { dst := some 13, op := .mov (.c (.int .i64 (0))) }]
def law23_DirectFormsAgree.r7 : List AI := [
  { dst := some 44, op := .mov (.t 13) },
  { dst := some 45, op := .mov (.t 2) },
  { dst := some 46, op := .len (.t 45) },
  { dst := some 47, op := .call 34 [(.t 46), (.c (.int .i64 (4)))] },
  { dst := some 48, op := .bin .add (.c (.int .i64 (1))) (.t 47) },
  { dst := some 49, op := .bin .lss (.t 44) (.t 48) }]
def law23_DirectFormsAgree.r9 : List AI := [
  { dst := some 52, op := .mov (.t 12) },
  { dst := some 53, op := .mov (.t 11) },
  { dst := some 54, op := .un .neg (.t 53) },
  { dst := some 55, op := .mov (.t 2) },
  { dst := some 56, op := .mov (.t 13) },
  { dst := some 57, op := .call 35 [(.t 55), (.t 56)] },
  { dst := some 58, op := .call 34 [(.t 57), (.c (.int .i64 (2)))] },
  { dst := some 59, op := .bin .mul (.t 54) (.t 58) },
  { dst := some 60, op := .bslice 60 1 [(.t 59)] },
  { dst := some 61, op := .app 61 1 8 (.t 52) (.t 60) },
  { dst := some 12, op := .mov (.t 61) }]
def law23_DirectFormsAgree.r8 : List AI := [
  { dst := some 50, op := .mov (.t 13) },
  { dst := some 51, op := .bin .add (.t 50) (.c (.int .i64 (1))) },
  { dst := some 13, op := .mov (.t 51) }]
def law23_DirectFormsAgree.r10 : List AI := [
  { dst := some 62, op := .mov (.t 3) },
  { dst := some 63, op := .mov (.t 3) },
  { dst := some 64, op := .len (.t 63) },
  { dst := some 65, op := .call 40 [(.c (.int .i64 (3))), (.t 62), (.t 64)] },
  { dst := some 14, op := .mov (.t 65) }]
def law23_DirectFormsAgree.r11 : List AI := [
  { dst := some 66, op := .mov (.t 12) },
  { dst := some 67, op := .len (.t 66) },
  { dst := some 68, op := .bin .sub (.t 67) (.c (.int .i64 (1))) },
  { dst := some 69, op := .mk 69 1 8 [(.int .i64 (0))] (.t 68) (.t 68) },
  { dst := some 15, op := .mov (.t 69) }]
def law23_DirectFormsAgree.r12 : List AI := [
  { dst := some 71, op := .mov (.t 12) },
  { dst := some 72, op := .ld true 4 (.t 9) },
  { dst := some 73, op := .ld true 4 (.t 10) },
  { dst := some 74, op := .call 50 [(.t 71), (.c .nil), (.t 72), (.t 73)] },
  { dst := some 70, op := .mov (.t 74) },
  { dst := some 75, op := .ext (.t 70) 0 },
  { dst := some 76, op := .ext (.t 70) 1 },
  { dst := some 16, op := .alloc 16 [(.int .i64 (0)), (.int .i64 (0)), (.int .i64 (0)), (.int .i64 (0)), (.int .i64 (0)), (.int .i64 (0)), (.int .i64 (0)), (.int .i64 (0)), (.int .i64 (0)), .nil, .nil, (.int .i64 (0))] },
  { dst := none, op := .st 12 (.t 16) (.t 75) },
  { dst := some 17, op := .mov (.t 76) }]
def law23_DirectFormsAgree.r13 : List AI := [
  { dst := some 78, op := .mov (.t 12) },
  { dst := some 79, op := .ld true 4 (.t 9) },
  { dst := some 80, op := .ld true 4 (.t 10) },
  { dst := some 81, op := .call 51 [(.t 78), (.c .nil), (.t 79), (.t 80)] },
  { dst := some 77, op := .mov (.t 81) },
  { dst := some 82, op := .ext (.t 77) 0 },
  { dst := some 83, op := .ext (.t 77) 1 },
  { dst := some 18, op := .alloc 18 [(.int .i64 (0)), (.int .i64 (0)), (.int .i64 (0)), (.int .i64 (0)), (.int .i64 (0)), (.int .i64 (0)), (.int .i64 (0)), (.int .i64 (0)), (.int .i64 (0)), .nil, .nil, (.int .i64 (0))] },
  { dst := none, op := .st 12 (.t 18) (.t 82) },
  { dst := some 19, op := .mov (.t 83) }]
def law23_DirectFormsAgree.r14 : List AI := [
  { dst := some 85, op := .mov (.t 12) },
  { dst := some 86, op := .ld true 4 (.t 9) },
  { dst := some 87, op := .ld true 4 (.t 10) },
  { dst := some 88, op := .call 52 [(.t 85), (.c .nil), (.t 86), (.t 87)] },
  { dst := some 84, op := .mov (.t 88) },
  { dst := some 89, op := .ext (.t 84) 0 },
  { dst := some 90, op := .ext (.t 84) 1 },
  { dst := some 20, op := .alloc 20 [(.int .i64 (0)), (.int .i64 (0)), (.int .i64 (0)), (.int .i64 (0)), (.int .i64 (0)), (.int .i64 (0)), (.int .i64 (0)), (.int .i64 (0)), (.int .i64 (0)), .nil, .nil, (.int .i64 (0))] },
  { dst := none, op := .st 12 (.t 20) (.t 89) },
  { dst := some 21, op := .mov (.t 90) }]
def law23_DirectFormsAgree.r15 : List AI := [
  { dst := some 92, op := .ld true 12 (.t 16) },
  { dst := some 93, op := .mov (.t 15) },
  { dst := some 94, op := .mov (.t 14) },
  { dst := some 95, op := .call 43 [(.t 92), (.t 93), (.t 94)] },
  { dst := some 91, op := .mov (.t 95) },
  { dst := some 96, op := .ext (.t 91) 0 },
  { dst := some 97, op := .ext (.t 91) 1 },
  { dst := some 98, op := .ext (.t 91) 2 },
  { dst := some 99, op := .ext (.t 91) 3 },
  { dst := some 22, op := .mov (.t 96) },
  { dst := some 23, op := .mov (.t 97) },
  { dst := some 24, op := .mov (.t 98) },
  { dst := some 25, op := .mov (.t 99) }]
def law23_DirectFormsAgree.r16 : List AI := [
  { dst := some 101, op := .ld true 12 (.t 18) },
  { dst := some 102, op := .mov (.t 15) },
  { dst := some 103, op := .mov (.t 14) },
  { dst := some 104, op := .call 43 [(.t 101), (.t 102), (.t 103)] },
  { dst := some 100, op := .mov (.t 104) },
  { dst := some 105, op := .ext (.t 100) 0 },
  { dst := some 106, op := .ext (.t 100) 1 },
  { dst := some 107, op := .ext (.t 100) 2 },
  { dst := some 108, op := .ext (.t 100) 3 },
  { dst := some 26, op := .mov (.t 105) },
  { dst := some 27, op := .mov (.t 106) },
  { dst := some 28, op := .mov (.t 107) },
  { dst := some 29, op := .mov (.t 108) }]
def law23_DirectFormsAgree.r17 : List AI := [
  { dst := some 110, op := .ld true 12 (.t 20) },
  { dst := some 111, op := .mov (.t 15) },
  { dst := some 112, op := .mov (.t 14) },
  { dst := some 113, op := .call 43 [(.t 110), (.t 111), (.t 112)] },
  { dst := some 109, op := .mov (.t 113) },
  { dst := some 114, op := .ext (.t 109) 0 },
  { dst := some 115, op := .ext (.t 109) 1 },
  { dst := some 116, op := .ext (.t 109) 2 },
  { dst := some 117, op := .ext (.t 109) 3 },
  { dst := some 30, op := .mov (.t 114) },
  { dst := some 31, op := .mov (.t 115) },
  { dst := some 32, op := .mov (.t 116) },
  { dst := some 33, op := .mov (.t 117) }]
def law23_DirectFormsAgree.r18 : List AI := [
  { dst := some 118, op := .mov (.t 17) },
  { dst := some 119, op := .bin .neq (.t 118) (.c (.int .i64 (0))) },
  { dst := some 120, op := .mov (.t 119) },
  { dst := some 121, op := .mov (.t 19), guard := some (120, false) },
  { dst := some 122, op := .bin .neq (.t 121) (.c (.int .i64 (0))), guard := some (120, false) },
  { dst := some 123, op := .pick (.t 120) (.c (.bool true)) (.t 122) },
  { dst := some 124, op := .mov (.t 123) },
  { dst := some 125, op := .mov (.t 21), guard := some (124, false) },
  { dst := some 126, op := .bin .neq (.t 125) (.c (.int .i64 (0))), guard := some (124, false) },
  { dst := some 127, op := .pick (.t 124) (.c (.bool true)) (.t 126) },
  { dst := some 128, op := .mov (.t 127) },
  { dst := some 129, op := .mov (.t 25), guard := some (128, false) },
  { dst := some 130, op := .bin .neq (.t 129) (.c (.int .i64 (0))), guard := some (128, false) },
  { dst := some 131, op := .pick (.t 128) (.c (.bool true)) (.t 130) },
  { dst := some 132, op := .mov (.t 131) },
  { dst := some 133, op := .mov (.t 29), guard := some (132, false) },
  { dst := some 134, op := .bin .neq (.t 133) (.c (.int .i64 (0))), guard := some (132, false) },
  { dst := some 135, op := .pick (.t 132) (.c (.bool true)) (.t 134) },
  { dst := some 136, op := .mov (.t 135) },
  { dst := some 137, op := .mov (.t 33), guard := some (136, false) },
  { dst := some 138, op := .bin .neq (.t 137) (.c (.int .i64 (0))), guard := some (136, false) },
  { dst := some 139, op := .pick (.t 136) (.c (.bool true)) (.t 138) }]
def law23_DirectFormsAgree.r19 : List AI := [
  { dst := some 8, op := .mov (.c (.bool false)) }]
def law23_DirectFormsAgree.r20 : List AI := [
  { dst := some 140, op := .call 54 [] },
  { dst := some 141, op := .mov (.t 140) },
  { dst := some 142, op := .mov (.t 24), guard := some (141, true) },
  { dst := some 143, op := .mov (.t 28), guard := some (141, true) },
  { dst := some 144, op := .bin .add (.t 142) (.t 143), guard := some (141, true) },
  { dst := some 145, op := .mov (.t 32), guard := some (141, true) },
  { dst := some 146, op := .bin .add (.t 144) (.t 145), guard := some (141, true) },
  { dst := some 147, op := .bin .gtr (.t 146) (.c (.int .i64 (0))), guard := some (141, true) },
  { dst := some 148, op := .mov (.t 147), guard := some (141, true) },
  { dst := some 149, op := .mov (.t 22), guard := some (148, false) },
  { dst := some 150, op := .mov (.t 26), guard := some (148, false) },
  { dst := some 151, op := .call 20 [(.t 149), (.t 150)], guard := some (148, false) },
  { dst := some 152, op := .mov (.t 151), guard := some (148, false) },
  { dst := some 153, op := .mov (.t 22), guard := some (152, true) },
  { dst := some 154, op := .mov (.t 30), guard := some (152, true) },
  { dst := some 155, op := .call 20 [(.t 153), (.t 154)], guard := some (152, true) },
  { dst := some 156, op := .pick (.t 152) (.t 155) (.c (.bool false)), guard := some (148, false) },
  { dst := some 157, op := .mov (.t 156), guard := some (148, false) },
  { dst := some 158, op := .mov (.t 22), guard := some (157, true) },
  { dst := some 159, op := .len (.t 158), guard := some (157, true) },
  { dst := some 160, op := .mov (.t 14), guard := some (157, true) },
  { dst := some 161, op := .len (.t 160), guard := some (157, true) },
  { dst := some 162, op := .bin .eql (.t 159) (.t 161), guard := some (157, true) },
  { dst := some 163, op := .pick (.t 157) (.t 162) (.c (.bool false)), guard := some (148, false) },
  { dst := some 164, op := .pick (.t 148) (.c (.bool true)) (.t 163), guard := some (141, true) },
  { dst := some 165, op := .pick (.t 141) (.t 164) (.c (.bool false)) },
  { dst := some 8, op := .mov (.t 165) }]
def law23_DirectFormsAgree.l1 : ACode := (.seq (.seq (.dr (.ops law23_DirectFormsAgree.r7 false) [44, 45, 46, 47, 48] []) (.cond (.t 49) .skip (.exit 0))) (.seq (.block 1 (.dr (.ops law23_DirectFormsAgree.r9 false) [49, 52, 53, 54, 55, 56, 57, 58, 59, 60, 61] [])) (.dr (.ops law23_DirectFormsAgree.r8 false) [50, 51] [])))
def law23_DirectFormsAgree.c : ACode := (.seq (.dr (.ops law23_DirectFormsAgree.r0 false) [8] []) (.seq (.seq (.dr (.ops law23_DirectFormsAgree.r1 false) [34, 35] []) (.cond (.t 36) (.seq (.dr (.ops law23_DirectFormsAgree.r2 false) [0, 1, 2, 3, 36, 37] []) .ret) .skip)) (.seq (.dr (.ops law23_DirectFormsAgree.r3 false) [0, 1, 36, 38, 39, 40, 41] []) (.seq (.dr (.ops law23_DirectFormsAgree.r4 false) [42, 43] []) (.seq (.ops law23_DirectFormsAgree.r5 false) (.seq (.seq (.ops law23_DirectFormsAgree.r6 false) (.block 0 (.loop law23_DirectFormsAgree.l1))) (.seq (.dr (.ops law23_DirectFormsAgree.r10 false) [2, 3, 11, 13, 49, 62, 63, 64, 65] []) (.seq (.dr (.ops law23_DirectFormsAgree.r11 false) [66, 67, 68, 69] []) (.seq (.dr (.ops law23_DirectFormsAgree.r12 false) [70, 71, 72, 73, 74, 75, 76] []) (.seq (.dr (.ops law23_DirectFormsAgree.r13 false) [77, 78, 79, 80, 81, 82, 83] []) (.seq (.dr (.ops law23_DirectFormsAgree.r14 false) [9, 10, 12, 84, 85, 86, 87, 88, 89, 90] []) (.seq (.dr (.ops law23_DirectFormsAgree.r15 false) [16, 23, 91, 92, 93, 94, 95, 96, 97, 98, 99] []) (.seq (.dr (.ops law23_DirectFormsAgree.r16 false) [18, 27, 100, 101, 102, 103, 104, 105, 106, 107, 108] []) (.seq (.dr (.ops law23_DirectFormsAgree.r17 false) [15, 20, 31, 109, 110, 111, 112, 113, 114, 115, 116, 117] []) (.seq (.seq (.dr (.ops law23_DirectFormsAgree.r18 false) [17, 19, 21, 25, 29, 33, 118, 119, 120, 121, 122, 123, 124, 125, 126, 127, 128, 129, 130, 131, 132, 133, 134, 135, 136, 137, 138] []) (.cond (.t 139) (.seq (.dr (.ops law23_DirectFormsAgree.r19 false) [14, 22, 24, 26, 28, 30, 32, 139] []) .ret) .skip)) (.seq (.dr (.ops law23_DirectFormsAgree.r20 false) [14, 22, 24, 26, 28, 30, 32, 139, 140, 141, 142, 143, 144, 145, 146, 147, 148, 149, 150, 151, 152, 153, 154, 155, 156, 157, 158, 159, 160, 161, 162, 163, 164, 165] []) .ret))))))))))))))))
def law23_DirectFormsAgree : AFn := ⟨4, law23_DirectFormsAgree.c, [.tmp 8]⟩

/-- a library has these functions -/
structure LawDLib (L : Lib) : Prop extends DirectGLib L where
  law23_DirectRecurs : L 55 = some F.law23_DirectRecurs
  law23_DirectScales : L 56 = some F.law23_DirectScales
  law23_DirectFormsAgree : L 57 = some F.law23_DirectFormsAgree
def LawDList : List (Nat × AFn) := [(55, F.law23_DirectRecurs), (56, F.law23_DirectScales), (57, F.law23_DirectFormsAgree)]

end Go.Eng.F
