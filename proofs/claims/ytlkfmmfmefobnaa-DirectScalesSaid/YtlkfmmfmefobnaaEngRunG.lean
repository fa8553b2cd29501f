/-
  Functions of the program, as the abstract machine reads them (group RunG). Written by a program (gen.py) off the model's own reading of the translation; the seat's check ties them to it.
-/
import Derived.Test.YtlkfmmfmefobnaaEngCore
import Derived.Test.YtlkfmmfmefobnaaEngNet
import Derived.Test.YtlkfmmfmefobnaaEngWorld
set_option linter.unusedSimpArgs false
set_option linter.unusedVariables false
set_option linter.unnecessarySimpa false
namespace Go.Eng.F

/-! world_Raw_Net -/
def world_Raw_Net.r0 : List AI := [
  { dst := some 1, op := .box 1 (.t 0) },
  { dst := some 2, op := .alloc 2 [(.int .i64 (0)), (.int .i64 (0)), (.int .i64 (0)), (.int .i64 (0)), (.int .i64 (0)), (.int .i64 (0)), (.int .i64 (0)), (.int .i64 (0)), (.int .i64 (0)), .nil, .nil, (.int .i64 (0))] }]
def world_Raw_Net.r1 : List AI := [
  { dst := some 10, op := .fadr (.t 1) 0 },
  { dst := some 11, op := .ld false 1 (.t 10), ban := [3] },
  { dst := some 12, op := .call 37 [(.t 11)], ban := [3] },
  { dst := some 13, op := .fadr (.t 1) 1 },
  { dst := some 14, op := .ld false 1 (.t 13), ban := [3] },
  { dst := some 15, op := .call 38 [(.t 14)], ban := [3] },
  { dst := some 16, op := .fadr (.t 1) 2 },
  { dst := some 17, op := .ld false 1 (.t 16), ban := [3] },
  { dst := some 18, op := .call 34 [(.t 17), (.c (.int .i64 (4)))], ban := [3] },
  { dst := some 19, op := .build [(.int .i64 (0)), (.int .i64 (0)), (.int .i64 (0)), (.int .i64 (0)), (.int .i64 (0)), (.int .i64 (0)), (.int .i64 (0)), (.int .i64 (0)), (.int .i64 (0)), .nil, .nil, (.int .i64 (0))] [(0, 4, (.t 12)), (4, 4, (.t 15)), (8, 1, (.t 18))] },
  { dst := some 3, op := .alloc 3 [(.int .i64 (0)), (.int .i64 (0)), (.int .i64 (0)), (.int .i64 (0)), (.int .i64 (0)), (.int .i64 (0)), (.int .i64 (0)), (.int .i64 (0)), (.int .i64 (0)), .nil, .nil, (.int .i64 (0))] },
  { dst := none, op := .st 12 (.t 3) (.t 19) }]
def world_Raw_Net.r2 : List AI := [
  { dst := some 20, op := .fadr (.t 3) 4 },
  { dst := some 21, op := .fadr (.t 20) 1 },
  { dst := some 22, op := .ld false 1 (.t 21) },
  { dst := some 23, op := .conv .u64 (.t 22) },
  { dst := some 24, op := .bin .shl (.c (.int .i64 (1))) (.t 23) },
  { dst := some 4, op := .mov (.t 24) }]
def world_Raw_Net.r3 : List AI := [
  { dst := some 5, op := .mov (.c (.int .i64 (0))) }]
def world_Raw_Net.r4 : List AI := [
  { dst := some 25, op := .mov (.t 5) },
  { dst := some 26, op := .fadr (.t 1) 3 },
  { dst := some 27, op := .ld false 1 (.t 26) },
  { dst := some 28, op := .len (.t 27) },
  { dst := some 29, op := .bin .lss (.t 25) (.t 28) },
  { dst := some 30, op := .mov (.t 29) },
  { dst := some 31, op := .mov (.t 5), guard := some (30, true) },
  { dst := some 32, op := .bin .lss (.t 31) (.c (.int .i64 (4))), guard := some (30, true) },
  { dst := some 33, op := .pick (.t 30) (.t 32) (.c (.bool false)) }]
def world_Raw_Net.r6 : List AI := [
  { dst := some 36, op := .build [.nil] [] },
  { dst := some 6, op := .alloc 6 [.nil] },
  { dst := none, op := .st 1 (.t 6) (.t 36) }]
def world_Raw_Net.r7 : List AI := [
  { dst := some 7, op := .mov (.c (.int .i64 (0))) }]
def world_Raw_Net.r8 : List AI := [
  { dst := some 37, op := .mov (.t 7) },
  { dst := some 38, op := .fadr (.t 1) 3 },
  { dst := some 39, op := .ld false 1 (.t 38) },
  { dst := some 40, op := .mov (.t 5) },
  { dst := some 41, op := .iadr none 2 (.t 39) (.t 40) },
  { dst := some 42, op := .fadr (.t 41) 0 },
  { dst := some 43, op := .ld false 1 (.t 42) },
  { dst := some 44, op := .len (.t 43) },
  { dst := some 45, op := .bin .lss (.t 37) (.t 44) },
  { dst := some 46, op := .mov (.t 45) },
  { dst := some 47, op := .mov (.t 7), guard := some (46, true) },
  { dst := some 48, op := .bin .lss (.t 47) (.c (.int .i64 (4))), guard := some (46, true) },
  { dst := some 49, op := .pick (.t 46) (.t 48) (.c (.bool false)) }]
def world_Raw_Net.r10 : List AI := [
  { dst := some 52, op := .fadr (.t 1) 3 },
  { dst := some 53, op := .ld false 1 (.t 52), ban := [8] },
  { dst := some 54, op := .mov (.t 5) },
  { dst := some 55, op := .iadr none 2 (.t 53) (.t 54) },
  { dst := some 56, op := .fadr (.t 55) 0 },
  { dst := some 57, op := .ld false 1 (.t 56), ban := [8] },
  { dst := some 58, op := .mov (.t 7) },
  { dst := some 59, op := .iadr none 1 (.t 57) (.t 58) },
  { dst := some 60, op := .ld false 1 (.t 59), ban := [8] },
  { dst := some 61, op := .fadr (.t 3) 8 },
  { dst := some 62, op := .ld false 1 (.t 61), ban := [8] },
  { dst := some 63, op := .bin .add (.c (.int .i64 (1))) (.t 62) },
  { dst := some 64, op := .mov (.t 5) },
  { dst := some 65, op := .bin .add (.t 63) (.t 64) },
  { dst := some 66, op := .call 34 [(.t 60), (.t 65)], ban := [8] },
  { dst := some 67, op := .fadr (.t 3) 4 },
  { dst := some 68, op := .ld true 4 (.t 67), ban := [8] },
  { dst := some 69, op := .fadr (.t 1) 3 },
  { dst := some 70, op := .ld false 1 (.t 69), ban := [8] },
  { dst := some 71, op := .mov (.t 5) },
  { dst := some 72, op := .iadr none 2 (.t 70) (.t 71) },
  { dst := some 73, op := .fadr (.t 72) 1 },
  { dst := some 74, op := .ld false 1 (.t 73), ban := [8] },
  { dst := some 75, op := .mov (.t 7) },
  { dst := some 76, op := .bin .add (.t 75) (.c (.int .i64 (1))) },
  { dst := some 77, op := .call 39 [(.t 68), (.t 74), (.t 76)], ban := [8] },
  { dst := some 78, op := .mov (.t 7) },
  { dst := some 79, op := .iadr none 1 (.t 77) (.t 78) },
  { dst := some 80, op := .ld false 1 (.t 79), ban := [8] },
  { dst := some 81, op := .build [(.int .i64 (0)), (.int .i64 (0))] [(0, 1, (.t 66)), (1, 1, (.t 80))] },
  { dst := some 8, op := .alloc 8 [(.int .i64 (0)), (.int .i64 (0))] },
  { dst := none, op := .st 2 (.t 8) (.t 81) }]
def world_Raw_Net.r11 : List AI := [
  { dst := some 82, op := .fadr (.t 1) 6 },
  { dst := some 83, op := .ld false 1 (.t 82) }]
def world_Raw_Net.r12 : List AI := [
  { dst := some 84, op := .mov (.t 4) },
  { dst := some 85, op := .fadr (.t 1) 3 },
  { dst := some 86, op := .ld false 1 (.t 85) },
  { dst := some 87, op := .mov (.t 5) },
  { dst := some 88, op := .iadr none 2 (.t 86) (.t 87) },
  { dst := some 89, op := .fadr (.t 88) 1 },
  { dst := some 90, op := .ld false 1 (.t 89) },
  { dst := some 91, op := .mov (.t 7) },
  { dst := some 92, op := .call 35 [(.t 90), (.t 91)] },
  { dst := some 93, op := .call 34 [(.t 92), (.c (.int .i64 (3)))] },
  { dst := some 94, op := .bin .sub (.t 93) (.c (.int .i64 (1))) },
  { dst := some 95, op := .bin .mul (.t 84) (.t 94) },
  { dst := some 96, op := .fadr (.t 8) 1 },
  { dst := none, op := .st 1 (.t 96) (.t 95) }]
def world_Raw_Net.r13 : List AI := [
  { dst := some 97, op := .fadr (.t 6) 0 },
  { dst := some 98, op := .ld false 1 (.t 97) },
  { dst := some 99, op := .ld true 2 (.t 8) },
  { dst := some 100, op := .bslice 100 2 [(.t 99)] },
  { dst := some 101, op := .app 101 2 16 (.t 98) (.t 100) },
  { dst := some 102, op := .fadr (.t 6) 0 },
  { dst := none, op := .st 1 (.t 102) (.t 101) }]
def world_Raw_Net.r9 : List AI := [
  { dst := some 50, op := .mov (.t 7) },
  { dst := some 51, op := .bin .add (.t 50) (.c (.int .i64 (1))) },
  { dst := some 7, op := .mov (.t 51) }]
def world_Raw_Net.r14 : List AI := [
  { dst := some 103, op := .fadr (.t 3) 9 },
  { dst := some 104, op := .ld false 1 (.t 103) },
  { dst := some 105, op := .ld true 1 (.t 6) },
  { dst := some 106, op := .bslice 106 1 [(.t 105)] },
  { dst := some 107, op := .app 107 1 24 (.t 104) (.t 106) },
  { dst := some 108, op := .fadr (.t 3) 9 },
  { dst := none, op := .st 1 (.t 108) (.t 107) }]
def world_Raw_Net.r5 : List AI := [
  { dst := some 34, op := .mov (.t 5) },
  { dst := some 35, op := .bin .add (.t 34) (.c (.int .i64 (1))) },
  { dst := some 5, op := .mov (.t 35) }]
def world_Raw_Net.r15 : List AI := [
  { dst := some 9, op := .mov (.c (.int .i64 (0))) }]
def world_Raw_Net.r16 : List AI := [
  { dst := some 109, op := .mov (.t 9) },
  { dst := some 110, op := .fadr (.t 3) 8 },
  { dst := some 111, op := .ld false 1 (.t 110) },
  { dst := some 112, op := .bin .lss (.t 109) (.t 111) }]
def world_Raw_Net.r18 : List AI := [
  { dst := some 115, op := .fadr (.t 3) 10 },
  { dst := some 116, op := .ld false 1 (.t 115), ban := [129] },
  { dst := some 117, op := .fadr (.t 1) 4 },
  { dst := some 118, op := .ld false 1 (.t 117) },
  { dst := some 119, op := .mov (.t 9) },
  { dst := some 120, op := .call 35 [(.t 118), (.t 119)] },
  { dst := some 121, op := .fadr (.t 3) 8 },
  { dst := some 122, op := .ld false 1 (.t 121) },
  { dst := some 123, op := .bin .add (.c (.int .i64 (1))) (.t 122) },
  { dst := some 124, op := .fadr (.t 3) 9 },
  { dst := some 125, op := .ld false 1 (.t 124) },
  { dst := some 126, op := .len (.t 125) },
  { dst := some 127, op := .bin .add (.t 123) (.t 126) },
  { dst := some 128, op := .call 34 [(.t 120), (.t 127)] },
  { dst := some 129, op := .bslice 129 1 [(.t 128)] },
  { dst := some 130, op := .app 130 1 8 (.t 116) (.t 129) },
  { dst := some 131, op := .fadr (.t 3) 10 },
  { dst := none, op := .st 1 (.t 131) (.t 130) }]
def world_Raw_Net.r17 : List AI := [
  { dst := some 113, op := .mov (.t 9) },
  { dst := some 114, op := .bin .add (.t 113) (.c (.int .i64 (1))) },
  { dst := some 9, op := .mov (.t 114) }]
def world_Raw_Net.r19 : List AI := [
  { dst := some 132, op := .fadr (.t 1) 5 },
  { dst := some 133, op := .ld false 1 (.t 132) },
  { dst := some 134, op := .fadr (.t 3) 8 },
  { dst := some 135, op := .ld false 1 (.t 134) },
  { dst := some 136, op := .bin .add (.c (.int .i64 (1))) (.t 135) },
  { dst := some 137, op := .fadr (.t 3) 9 },
  { dst := some 138, op := .ld false 1 (.t 137) },
  { dst := some 139, op := .len (.t 138) },
  { dst := some 140, op := .bin .add (.t 136) (.t 139) },
  { dst := some 141, op := .call 34 [(.t 133), (.t 140)] },
  { dst := some 142, op := .fadr (.t 3) 11 },
  { dst := none, op := .st 1 (.t 142) (.t 141) }]
def world_Raw_Net.r20 : List AI := [
  { dst := some 143, op := .ld true 12 (.t 3) },
  { dst := none, op := .st 12 (.t 2) (.t 143) }]
def world_Raw_Net.l2 : ACode := (.seq (.seq (.dr (.ops world_Raw_Net.r8 false) [37, 38, 39, 40, 41, 42, 43, 44, 45, 46, 47, 48] []) (.cond (.t 49) .skip (.exit 2))) (.seq (.block 3 (.seq (.dr (.ops world_Raw_Net.r10 true) [49, 52, 53, 54, 55, 56, 57, 58, 59, 60, 61, 62, 63, 64, 65, 66, 67, 68, 69, 70, 71, 72, 73, 74, 75, 76, 77, 78, 79, 80, 81] []) (.seq (.seq (.dr (.ops world_Raw_Net.r11 false) [82] []) (.cond (.t 83) (.dr (.ops world_Raw_Net.r12 false) [83, 84, 85, 86, 87, 88, 89, 90, 91, 92, 93, 94, 95, 96] []) .skip)) (.dr (.ops world_Raw_Net.r13 false) [8, 83, 97, 98, 99, 100, 101, 102] [])))) (.dr (.ops world_Raw_Net.r9 false) [50, 51] [])))
def world_Raw_Net.l1 : ACode := (.seq (.seq (.dr (.ops world_Raw_Net.r4 false) [25, 26, 27, 28, 29, 30, 31, 32] []) (.cond (.t 33) .skip (.exit 0))) (.seq (.block 1 (.seq (.dr (.ops world_Raw_Net.r6 false) [33, 36] []) (.seq (.seq (.ops world_Raw_Net.r7 false) (.block 2 (.loop world_Raw_Net.l2))) (.dr (.ops world_Raw_Net.r14 false) [6, 7, 49, 103, 104, 105, 106, 107, 108] [])))) (.dr (.ops world_Raw_Net.r5 false) [34, 35] [])))
def world_Raw_Net.l3 : ACode := (.seq (.seq (.dr (.ops world_Raw_Net.r16 false) [109, 110, 111] []) (.cond (.t 112) .skip (.exit 4))) (.seq (.block 5 (.dr (.ops world_Raw_Net.r18 true) [112, 115, 116, 117, 118, 119, 120, 121, 122, 123, 124, 125, 126, 127, 128, 129, 130, 131] [])) (.dr (.ops world_Raw_Net.r17 false) [113, 114] [])))
def world_Raw_Net.c : ACode := (.seq (.dr (.ops world_Raw_Net.r0 false) [0] []) (.seq (.dr (.ops world_Raw_Net.r1 true) [10, 11, 12, 13, 14, 15, 16, 17, 18, 19] []) (.seq (.dr (.ops world_Raw_Net.r2 false) [20, 21, 22, 23, 24] []) (.seq (.seq (.ops world_Raw_Net.r3 false) (.block 0 (.loop world_Raw_Net.l1))) (.seq (.seq (.dr (.ops world_Raw_Net.r15 false) [4, 5, 33] []) (.block 4 (.loop world_Raw_Net.l3))) (.seq (.dr (.ops world_Raw_Net.r19 false) [1, 9, 112, 132, 133, 134, 135, 136, 137, 138, 139, 140, 141, 142] []) (.seq (.dr (.ops world_Raw_Net.r20 false) [3, 143] []) .ret)))))))
def world_Raw_Net : AFn := ⟨1, world_Raw_Net.c, [.cell 2 true 12]⟩

/-! network_Run -/
def network_Run.r0 : List AI := [
  { dst := some 3, op := .box 3 (.t 0) },
  { dst := some 6, op := .mov (.c .nil) },
  { dst := some 7, op := .mov (.c .nil) },
  { dst := some 8, op := .mov (.c (.int .i64 (0))) },
  { dst := some 9, op := .mov (.c (.int .i64 (0))) }]
def network_Run.r1 : List AI := [
  { dst := some 18, op := .ld true 12 (.t 3) },
  { dst := some 19, op := .call 21 [(.t 18)] },
  { dst := some 20, op := .un .not (.t 19) }]
def network_Run.r2 : List AI := [
  { dst := some 6, op := .mov (.c .nil) },
  { dst := some 7, op := .mov (.c .nil) },
  { dst := some 8, op := .mov (.c (.int .i64 (0))) },
  { dst := some 9, op := .mov (.c (.int .i64 (2))) }]
def network_Run.r3 : List AI := [
  { dst := some 21, op := .mov (.t 2) },
  { dst := some 22, op := .len (.t 21) },
  { dst := some 23, op := .bin .gtr (.t 22) (.c (.int .i64 (4096))) }]
def network_Run.r4 : List AI := [
  { dst := some 6, op := .mov (.c .nil) },
  { dst := some 7, op := .mov (.c .nil) },
  { dst := some 8, op := .mov (.c (.int .i64 (0))) },
  { dst := some 9, op := .mov (.c (.int .i64 (4))) }]
def network_Run.r5 : List AI := [
  { dst := some 24, op := .ld true 12 (.t 3) },
  { dst := some 25, op := .mov (.t 1) },
  { dst := some 26, op := .mov (.t 2) },
  { dst := some 27, op := .call 22 [(.t 24), (.t 25), (.t 26)] },
  { dst := some 10, op := .mov (.t 27) }]
def network_Run.r6 : List AI := [
  { dst := some 28, op := .mov (.t 10) },
  { dst := some 29, op := .bin .neq (.t 28) (.c (.int .i64 (0))) }]
def network_Run.r7 : List AI := [
  { dst := some 30, op := .mov (.t 10) },
  { dst := some 6, op := .mov (.c .nil) },
  { dst := some 7, op := .mov (.c .nil) },
  { dst := some 8, op := .mov (.c (.int .i64 (0))) },
  { dst := some 9, op := .mov (.t 30) }]
def network_Run.r8 : List AI := [
  { dst := some 31, op := .mov (.t 1) },
  { dst := some 32, op := .len (.t 31) },
  { dst := some 33, op := .mk 33 1 8 [(.int .i64 (0))] (.t 32) (.t 32) },
  { dst := some 11, op := .mov (.t 33) }]
def network_Run.r9 : List AI := [
  { dst := some 34, op := .mov (.t 11) },
  { dst := some 35, op := .mov (.t 1) },
  { dst := some 36, op := .cpy 1 (.t 34) (.t 35) }]
def network_Run.r10 : List AI := [
  { dst := some 37, op := .mov (.t 2) },
  { dst := some 38, op := .len (.t 37) },
  { dst := some 39, op := .mk 39 1 8 [(.int .i64 (0))] (.c (.int .i64 (0))) (.t 38) },
  { dst := some 12, op := .mov (.t 39) }]
def network_Run.r11 : List AI := [
  { dst := some 13, op := .mov (.c (.int .i64 (0))) }]
def network_Run.r12 : List AI := [
  { dst := some 40, op := .mov (.t 2) },
  { dst := some 41, op := .len (.t 40) },
  { dst := some 42, op := .mov (.c (.int .i64 (0))) }]
def network_Run.r13 : List AI := [
  { dst := some 43, op := .bin .lss (.t 42) (.t 41) }]
def network_Run.r14 : List AI := [
  { dst := some 44, op := .iadr none 1 (.t 40) (.t 42) },
  { dst := some 45, op := .ld false 1 (.t 44) },
  { dst := some 15, op := .mov (.t 45) }]
def network_Run.r15 : List AI := [
  { dst := some 47, op := .ld true 12 (.t 3) },
  { dst := some 48, op := .mov (.t 11) },
  { dst := some 49, op := .mov (.t 15) },
  { dst := some 50, op := .call 23 [(.t 47), (.t 48), (.t 49)] },
  { dst := some 46, op := .mov (.t 50) },
  { dst := some 51, op := .ext (.t 46) 0 },
  { dst := some 52, op := .ext (.t 46) 1 },
  { dst := some 16, op := .mov (.t 51) },
  { dst := some 17, op := .mov (.t 52) }]
def network_Run.r16 : List AI := [
  { dst := some 53, op := .mov (.t 11) },
  { dst := some 54, op := .ld true 12 (.t 3) },
  { dst := some 55, op := .mov (.t 16) },
  { dst := some 56, op := .call 25 [(.t 54), (.t 55)] },
  { dst := some 57, op := .cpy 1 (.t 53) (.t 56) }]
def network_Run.r17 : List AI := [
  { dst := some 58, op := .mov (.t 12) },
  { dst := some 59, op := .mov (.t 16) },
  { dst := some 60, op := .fadr (.t 3) 11 },
  { dst := some 61, op := .ld false 1 (.t 60) },
  { dst := some 62, op := .iadr none 1 (.t 59) (.t 61) },
  { dst := some 63, op := .ld false 1 (.t 62) },
  { dst := some 64, op := .bslice 64 1 [(.t 63)] },
  { dst := some 65, op := .app 65 1 8 (.t 58) (.t 64) },
  { dst := some 12, op := .mov (.t 65) }]
def network_Run.r18 : List AI := [
  { dst := some 66, op := .mov (.t 17) }]
def network_Run.r19 : List AI := [
  { dst := some 67, op := .mov (.t 13) },
  { dst := some 68, op := .bin .add (.t 67) (.c (.int .i64 (1))) },
  { dst := some 13, op := .mov (.t 68) }]
def network_Run.r20 : List AI := [
  { dst := some 69, op := .bin .add (.t 42) (.c (.int .i64 (1))) },
  { dst := some 42, op := .mov (.t 69) }]
def network_Run.r21 : List AI := [
  { dst := some 70, op := .mov (.t 12) },
  { dst := some 71, op := .mov (.t 11) },
  { dst := some 72, op := .mov (.t 13) },
  { dst := some 6, op := .mov (.t 70) },
  { dst := some 7, op := .mov (.t 71) },
  { dst := some 8, op := .mov (.t 72) },
  { dst := some 9, op := .mov (.c (.int .i64 (0))) }]
def network_Run.l1 : ACode := (.seq (.ops network_Run.r13 false) (.seq (.cond (.t 43) .skip (.exit 0)) (.seq (.block 1 (.seq (.dr (.ops network_Run.r14 false) [43, 44, 45] []) (.seq (.dr (.ops network_Run.r15 false) [15, 46, 47, 48, 49, 50, 51, 52] []) (.seq (.dr (.ops network_Run.r16 false) [53, 54, 55, 56, 57] []) (.seq (.dr (.ops network_Run.r17 false) [16, 58, 59, 60, 61, 62, 63, 64, 65] []) (.seq (.dr (.ops network_Run.r18 false) [17] []) (.cond (.t 66) (.dr (.ops network_Run.r19 false) [66, 67, 68] []) .skip))))))) (.dr (.ops network_Run.r20 false) [66, 69] []))))
def network_Run.c : ACode := (.seq (.dr (.ops network_Run.r0 false) [0, 6, 7, 8, 9] []) (.seq (.seq (.dr (.ops network_Run.r1 false) [18, 19] []) (.cond (.t 20) (.seq (.dr (.ops network_Run.r2 false) [1, 2, 3, 20] []) .ret) .skip)) (.seq (.seq (.dr (.ops network_Run.r3 false) [20, 21, 22] []) (.cond (.t 23) (.seq (.dr (.ops network_Run.r4 false) [1, 2, 3, 23] []) .ret) .skip)) (.seq (.seq (.dr (.ops network_Run.r5 false) [23, 24, 25, 26, 27] []) (.seq (.dr (.ops network_Run.r6 false) [28] []) (.cond (.t 29) (.seq (.dr (.ops network_Run.r7 false) [1, 2, 3, 10, 29, 30] []) .ret) .skip))) (.seq (.dr (.ops network_Run.r8 false) [10, 29, 31, 32, 33] []) (.seq (.dr (.ops network_Run.r9 false) [1, 34, 35, 36] []) (.seq (.dr (.ops network_Run.r10 false) [37, 38, 39] []) (.seq (.ops network_Run.r11 false) (.seq (.seq (.dr (.ops network_Run.r12 false) [2] []) (.block 0 (.loop network_Run.l1))) (.seq (.dr (.ops network_Run.r21 false) [3, 11, 12, 13, 40, 41, 42, 43, 70, 71, 72] []) .ret))))))))))
def network_Run : AFn := ⟨3, network_Run.c, [.tmp 6, .tmp 7, .tmp 8, .tmp 9]⟩

/-! ref22_Run -/
def ref22_Run.r0 : List AI := [
  { dst := some 3, op := .box 3 (.t 0) },
  { dst := some 6, op := .mov (.c .nil) },
  { dst := some 7, op := .mov (.c .nil) },
  { dst := some 8, op := .mov (.c (.int .i64 (0))) },
  { dst := some 9, op := .mov (.c (.int .i64 (0))) }]
def ref22_Run.r1 : List AI := [
  { dst := some 19, op := .ld true 12 (.t 3) },
  { dst := some 20, op := .call 27 [(.t 19)] },
  { dst := some 21, op := .un .not (.t 20) },
  { dst := some 18, op := .mov (.t 21) }]
def ref22_Run.r2 : List AI := [
  { dst := some 6, op := .mov (.c .nil) },
  { dst := some 7, op := .mov (.c .nil) },
  { dst := some 8, op := .mov (.c (.int .i64 (0))) },
  { dst := some 9, op := .mov (.c (.int .i64 (2))) }]
def ref22_Run.r3 : List AI := [
  { dst := some 23, op := .mov (.t 2) },
  { dst := some 24, op := .len (.t 23) },
  { dst := some 25, op := .bin .gtr (.t 24) (.c (.int .i64 (4096))) },
  { dst := some 22, op := .mov (.t 25) }]
def ref22_Run.r4 : List AI := [
  { dst := some 6, op := .mov (.c .nil) },
  { dst := some 7, op := .mov (.c .nil) },
  { dst := some 8, op := .mov (.c (.int .i64 (0))) },
  { dst := some 9, op := .mov (.c (.int .i64 (4))) }]
def ref22_Run.r5 : List AI := [
  { dst := some 27, op := .mov (.t 1) },
  { dst := some 28, op := .len (.t 27) },
  { dst := some 29, op := .fadr (.t 3) 8 },
  { dst := some 30, op := .ld false 1 (.t 29) },
  { dst := some 31, op := .bin .neq (.t 28) (.t 30) },
  { dst := some 26, op := .mov (.t 31) }]
def ref22_Run.r6 : List AI := [
  { dst := some 6, op := .mov (.c .nil) },
  { dst := some 7, op := .mov (.c .nil) },
  { dst := some 8, op := .mov (.c (.int .i64 (0))) },
  { dst := some 9, op := .mov (.c (.int .i64 (1))) }]
def ref22_Run.r7 : List AI := [
  { dst := some 33, op := .fadr (.t 3) 0 },
  { dst := some 34, op := .ld true 4 (.t 33) },
  { dst := some 35, op := .mov (.t 1) },
  { dst := some 36, op := .call 19 [(.t 34), (.t 35)] },
  { dst := some 37, op := .un .not (.t 36) },
  { dst := some 38, op := .mov (.t 37) },
  { dst := some 39, op := .fadr (.t 3) 0, guard := some (38, false) },
  { dst := some 40, op := .ld true 4 (.t 39), guard := some (38, false) },
  { dst := some 41, op := .mov (.t 2), guard := some (38, false) },
  { dst := some 42, op := .call 19 [(.t 40), (.t 41)], guard := some (38, false) },
  { dst := some 43, op := .un .not (.t 42), guard := some (38, false) },
  { dst := some 44, op := .pick (.t 38) (.c (.bool true)) (.t 43) },
  { dst := some 32, op := .mov (.t 44) }]
def ref22_Run.r8 : List AI := [
  { dst := some 6, op := .mov (.c .nil) },
  { dst := some 7, op := .mov (.c .nil) },
  { dst := some 8, op := .mov (.c (.int .i64 (0))) },
  { dst := some 9, op := .mov (.c (.int .i64 (17))) }]
def ref22_Run.r9 : List AI := [
  { dst := some 10, op := .vrow 10 1 }]
def ref22_Run.r10 : List AI := [
  { dst := some 11, op := .mov (.c (.int .i64 (0))) }]
def ref22_Run.r11 : List AI := [
  { dst := some 45, op := .bslice 45 1 [] },
  { dst := some 46, op := .mov (.t 1) },
  { dst := some 47, op := .app 47 1 8 (.t 45) (.t 46) },
  { dst := some 12, op := .mov (.t 47) }]
def ref22_Run.r12 : List AI := [
  { dst := some 13, op := .mov (.c (.int .i64 (0))) }]
def ref22_Run.r13 : List AI := [
  { dst := some 48, op := .mov (.t 13) },
  { dst := some 49, op := .mov (.t 2) },
  { dst := some 50, op := .len (.t 49) },
  { dst := some 51, op := .bin .lss (.t 48) (.t 50) }]
def ref22_Run.r15 : List AI := [
  { dst := some 55, op := .ld true 12 (.t 3) },
  { dst := some 56, op := .mov (.t 12) },
  { dst := some 57, op := .mov (.t 2) },
  { dst := some 58, op := .mov (.t 13) },
  { dst := some 59, op := .iadr none 1 (.t 57) (.t 58) },
  { dst := some 60, op := .ld false 1 (.t 59) },
  { dst := some 61, op := .call 30 [(.t 55), (.t 56), (.t 60)] },
  { dst := some 54, op := .mov (.t 61) },
  { dst := some 62, op := .ext (.t 54) 0 },
  { dst := some 63, op := .ext (.t 54) 1 },
  { dst := some 64, op := .ext (.t 54) 2 },
  { dst := some 65, op := .ext (.t 54) 3 },
  { dst := some 14, op := .mov (.t 62) },
  { dst := some 15, op := .mov (.t 63) },
  { dst := some 16, op := .mov (.t 64) },
  { dst := some 17, op := .mov (.t 65) }]
def ref22_Run.r16 : List AI := [
  { dst := some 66, op := .mov (.t 14) },
  { dst := some 12, op := .mov (.t 66) }]
def ref22_Run.r17 : List AI := [
  { dst := some 67, op := .mov (.t 10) },
  { dst := some 68, op := .mov (.t 15) },
  { dst := some 69, op := .bslice 69 1 [(.t 68)] },
  { dst := some 70, op := .app 70 1 8 (.t 67) (.t 69) },
  { dst := some 10, op := .mov (.t 70) }]
def ref22_Run.r18 : List AI := [
  { dst := some 71, op := .mov (.t 16) }]
def ref22_Run.r19 : List AI := [
  { dst := some 72, op := .mov (.t 11) },
  { dst := some 73, op := .bin .add (.t 72) (.c (.int .i64 (1))) },
  { dst := some 11, op := .mov (.t 73) }]
def ref22_Run.r14 : List AI := [
  { dst := some 52, op := .mov (.t 13) },
  { dst := some 53, op := .bin .add (.t 52) (.c (.int .i64 (1))) },
  { dst := some 13, op := .mov (.t 53) }]
def ref22_Run.r20 : List AI := [
  { dst := some 74, op := .mov (.t 10) },
  { dst := some 75, op := .mov (.t 12) },
  { dst := some 76, op := .mov (.t 11) },
  { dst := some 6, op := .mov (.t 74) },
  { dst := some 7, op := .mov (.t 75) },
  { dst := some 8, op := .mov (.t 76) },
  { dst := some 9, op := .mov (.c (.int .i64 (0))) }]
def ref22_Run.l1 : ACode := (.seq (.seq (.dr (.ops ref22_Run.r13 false) [48, 49, 50] []) (.cond (.t 51) .skip (.exit 1))) (.seq (.block 2 (.seq (.dr (.ops ref22_Run.r15 true) [12, 17, 51, 54, 55, 56, 57, 58, 59, 60, 61, 62, 63, 64, 65] []) (.seq (.dr (.ops ref22_Run.r16 false) [14, 66] []) (.seq (.dr (.ops ref22_Run.r17 false) [15, 67, 68, 69, 70] []) (.seq (.dr (.ops ref22_Run.r18 false) [16] []) (.cond (.t 71) (.dr (.ops ref22_Run.r19 false) [71, 72, 73] []) .skip)))))) (.dr (.ops ref22_Run.r14 false) [52, 53, 71] [])))
def ref22_Run.c : ACode := (.seq (.dr (.ops ref22_Run.r0 false) [0, 6, 7, 8, 9] []) (.seq (.block 0 (.seq (.dr (.ops ref22_Run.r1 false) [19, 20, 21] []) (.cond (.t 18) (.seq (.dr (.ops ref22_Run.r2 false) [1, 2, 3, 18] []) .ret) (.seq (.dr (.ops ref22_Run.r3 false) [18, 23, 24, 25] []) (.cond (.t 22) (.seq (.dr (.ops ref22_Run.r4 false) [1, 2, 3, 22] []) .ret) (.seq (.dr (.ops ref22_Run.r5 false) [22, 27, 28, 29, 30, 31] []) (.cond (.t 26) (.seq (.dr (.ops ref22_Run.r6 false) [1, 2, 3, 26] []) .ret) (.seq (.dr (.ops ref22_Run.r7 false) [26, 33, 34, 35, 36, 37, 38, 39, 40, 41, 42, 43, 44] []) (.cond (.t 32) (.seq (.dr (.ops ref22_Run.r8 false) [1, 2, 3, 32] []) .ret) .skip))))))))) (.seq (.dr (.ops ref22_Run.r9 false) [32] []) (.seq (.ops ref22_Run.r10 false) (.seq (.dr (.ops ref22_Run.r11 false) [1, 45, 46, 47] []) (.seq (.seq (.ops ref22_Run.r12 false) (.block 1 (.loop ref22_Run.l1))) (.seq (.dr (.ops ref22_Run.r20 false) [2, 3, 10, 11, 12, 13, 51, 74, 75, 76] []) .ret)))))))
def ref22_Run : AFn := ⟨3, ref22_Run.c, [.tmp 6, .tmp 7, .tmp 8, .tmp 9]⟩

/-! law22_NetworkRuns -/
def law22_NetworkRuns.r0 : List AI := [
  { dst := some 4, op := .box 4 (.t 0) },
  { dst := some 8, op := .mov (.c (.bool false)) }]
def law22_NetworkRuns.r1 : List AI := [
  { dst := some 29, op := .mov (.t 2) },
  { dst := some 30, op := .len (.t 29) },
  { dst := some 31, op := .bin .gtr (.t 30) (.c (.int .i64 (60))) }]
def law22_NetworkRuns.r2 : List AI := [
  { dst := some 32, op := .call 32 [] },
  { dst := some 8, op := .mov (.t 32) }]
def law22_NetworkRuns.r3 : List AI := [
  { dst := some 33, op := .ld true 7 (.t 4) },
  { dst := some 34, op := .call 42 [(.t 33)] },
  { dst := some 9, op := .alloc 9 [(.int .i64 (0)), (.int .i64 (0)), (.int .i64 (0)), (.int .i64 (0)), (.int .i64 (0)), (.int .i64 (0)), (.int .i64 (0)), (.int .i64 (0)), (.int .i64 (0)), .nil, .nil, (.int .i64 (0))] },
  { dst := none, op := .st 12 (.t 9) (.t 34) }]
def law22_NetworkRuns.r4 : List AI := [
  { dst := some 35, op := .fadr (.t 9) 0 },
  { dst := some 36, op := .ld true 4 (.t 35) },
  { dst := some 37, op := .mov (.t 1) },
  { dst := some 38, op := .fadr (.t 9) 8 },
  { dst := some 39, op := .ld false 1 (.t 38) },
  { dst := some 40, op := .call 39 [(.t 36), (.t 37), (.t 39)] },
  { dst := some 41, op := .fadr (.t 9) 0 },
  { dst := some 42, op := .ld true 4 (.t 41) },
  { dst := some 43, op := .mov (.t 2) },
  { dst := some 44, op := .mov (.t 2) },
  { dst := some 45, op := .len (.t 44) },
  { dst := some 46, op := .call 39 [(.t 42), (.t 43), (.t 45)] },
  { dst := some 10, op := .mov (.t 40) },
  { dst := some 11, op := .mov (.t 46) }]
def law22_NetworkRuns.r5 : List AI := [
  { dst := some 48, op := .ld true 12 (.t 9) },
  { dst := some 49, op := .mov (.t 10) },
  { dst := some 50, op := .mov (.t 11) },
  { dst := some 51, op := .call 43 [(.t 48), (.t 49), (.t 50)] },
  { dst := some 47, op := .mov (.t 51) },
  { dst := some 52, op := .ext (.t 47) 0 },
  { dst := some 53, op := .ext (.t 47) 1 },
  { dst := some 54, op := .ext (.t 47) 2 },
  { dst := some 55, op := .ext (.t 47) 3 },
  { dst := some 12, op := .mov (.t 52) },
  { dst := some 13, op := .mov (.t 53) },
  { dst := some 14, op := .mov (.t 54) },
  { dst := some 15, op := .mov (.t 55) }]
def law22_NetworkRuns.r6 : List AI := [
  { dst := some 57, op := .ld true 12 (.t 9) },
  { dst := some 58, op := .mov (.t 10) },
  { dst := some 59, op := .mov (.t 11) },
  { dst := some 60, op := .call 44 [(.t 57), (.t 58), (.t 59)] },
  { dst := some 56, op := .mov (.t 60) },
  { dst := some 61, op := .ext (.t 56) 0 },
  { dst := some 62, op := .ext (.t 56) 1 },
  { dst := some 63, op := .ext (.t 56) 2 },
  { dst := some 64, op := .ext (.t 56) 3 },
  { dst := some 16, op := .mov (.t 61) },
  { dst := some 17, op := .mov (.t 62) },
  { dst := some 18, op := .mov (.t 63) },
  { dst := some 19, op := .mov (.t 64) }]
def law22_NetworkRuns.r7 : List AI := [
  { dst := some 65, op := .mov (.t 3) },
  { dst := some 66, op := .mov (.t 11) },
  { dst := some 67, op := .len (.t 66) },
  { dst := some 68, op := .bin .add (.t 67) (.c (.int .i64 (1))) },
  { dst := some 69, op := .call 34 [(.t 65), (.t 68)] },
  { dst := some 20, op := .mov (.t 69) }]
def law22_NetworkRuns.r8 : List AI := [
  { dst := some 71, op := .ld true 12 (.t 9) },
  { dst := some 72, op := .mov (.t 10) },
  { dst := some 73, op := .mov (.t 11) },
  { dst := some 74, op := .mov (.t 20) },
  { dst := some 75, op := .slc 1 (.t 73) none (some (.t 74)) },
  { dst := some 76, op := .call 43 [(.t 71), (.t 72), (.t 75)] },
  { dst := some 70, op := .mov (.t 76) },
  { dst := some 77, op := .ext (.t 70) 0 },
  { dst := some 78, op := .ext (.t 70) 1 },
  { dst := some 79, op := .ext (.t 70) 2 },
  { dst := some 80, op := .ext (.t 70) 3 },
  { dst := some 21, op := .mov (.t 77) },
  { dst := some 22, op := .mov (.t 78) },
  { dst := some 23, op := .mov (.t 79) },
  { dst := some 24, op := .mov (.t 80) }]
def law22_NetworkRuns.r9 : List AI := [
  { dst := some 82, op := .ld true 12 (.t 9) },
  { dst := some 83, op := .mov (.t 22) },
  { dst := some 84, op := .mov (.t 11) },
  { dst := some 85, op := .mov (.t 20) },
  { dst := some 86, op := .slc 1 (.t 84) (some (.t 85)) none },
  { dst := some 87, op := .call 43 [(.t 82), (.t 83), (.t 86)] },
  { dst := some 81, op := .mov (.t 87) },
  { dst := some 88, op := .ext (.t 81) 0 },
  { dst := some 89, op := .ext (.t 81) 1 },
  { dst := some 90, op := .ext (.t 81) 2 },
  { dst := some 91, op := .ext (.t 81) 3 },
  { dst := some 25, op := .mov (.t 88) },
  { dst := some 26, op := .mov (.t 89) },
  { dst := some 27, op := .mov (.t 90) },
  { dst := some 28, op := .mov (.t 91) }]
def law22_NetworkRuns.r10 : List AI := [
  { dst := some 92, op := .call 32 [] },
  { dst := some 93, op := .mov (.t 92) },
  { dst := some 94, op := .mov (.t 15), guard := some (93, true) },
  { dst := some 95, op := .bin .eql (.t 94) (.c (.int .i64 (0))), guard := some (93, true) },
  { dst := some 96, op := .pick (.t 93) (.t 95) (.c (.bool false)) },
  { dst := some 97, op := .mov (.t 96) },
  { dst := some 98, op := .mov (.t 19), guard := some (97, true) },
  { dst := some 99, op := .bin .eql (.t 98) (.c (.int .i64 (0))), guard := some (97, true) },
  { dst := some 100, op := .pick (.t 97) (.t 99) (.c (.bool false)) },
  { dst := some 101, op := .mov (.t 100) },
  { dst := some 102, op := .mov (.t 24), guard := some (101, true) },
  { dst := some 103, op := .bin .eql (.t 102) (.c (.int .i64 (0))), guard := some (101, true) },
  { dst := some 104, op := .pick (.t 101) (.t 103) (.c (.bool false)) },
  { dst := some 105, op := .mov (.t 104) },
  { dst := some 106, op := .mov (.t 28), guard := some (105, true) },
  { dst := some 107, op := .bin .eql (.t 106) (.c (.int .i64 (0))), guard := some (105, true) },
  { dst := some 108, op := .pick (.t 105) (.t 107) (.c (.bool false)) },
  { dst := some 109, op := .mov (.t 108) },
  { dst := some 110, op := .mov (.t 12), guard := some (109, true) },
  { dst := some 111, op := .mov (.t 16), guard := some (109, true) },
  { dst := some 112, op := .call 20 [(.t 110), (.t 111)], guard := some (109, true) },
  { dst := some 113, op := .pick (.t 109) (.t 112) (.c (.bool false)) },
  { dst := some 114, op := .mov (.t 113) },
  { dst := some 115, op := .mov (.t 13), guard := some (114, true) },
  { dst := some 116, op := .mov (.t 17), guard := some (114, true) },
  { dst := some 117, op := .call 20 [(.t 115), (.t 116)], guard := some (114, true) },
  { dst := some 118, op := .pick (.t 114) (.t 117) (.c (.bool false)) },
  { dst := some 119, op := .mov (.t 118) },
  { dst := some 120, op := .mov (.t 14), guard := some (119, true) },
  { dst := some 121, op := .mov (.t 18), guard := some (119, true) },
  { dst := some 122, op := .bin .eql (.t 120) (.t 121), guard := some (119, true) },
  { dst := some 123, op := .pick (.t 119) (.t 122) (.c (.bool false)) },
  { dst := some 124, op := .mov (.t 123) },
  { dst := some 125, op := .bslice 125 1 [], guard := some (124, true) },
  { dst := some 126, op := .mov (.t 21), guard := some (124, true) },
  { dst := some 127, op := .app 127 1 8 (.t 125) (.t 126), guard := some (124, true) },
  { dst := some 128, op := .mov (.t 25), guard := some (124, true) },
  { dst := some 129, op := .app 129 1 8 (.t 127) (.t 128), guard := some (124, true) },
  { dst := some 130, op := .mov (.t 12), guard := some (124, true) },
  { dst := some 131, op := .call 20 [(.t 129), (.t 130)], guard := some (124, true) },
  { dst := some 132, op := .pick (.t 124) (.t 131) (.c (.bool false)) },
  { dst := some 133, op := .mov (.t 132) },
  { dst := some 134, op := .mov (.t 26), guard := some (133, true) },
  { dst := some 135, op := .mov (.t 13), guard := some (133, true) },
  { dst := some 136, op := .call 20 [(.t 134), (.t 135)], guard := some (133, true) },
  { dst := some 137, op := .pick (.t 133) (.t 136) (.c (.bool false)) },
  { dst := some 138, op := .mov (.t 137) },
  { dst := some 139, op := .mov (.t 23), guard := some (138, true) },
  { dst := some 140, op := .mov (.t 27), guard := some (138, true) },
  { dst := some 141, op := .bin .add (.t 139) (.t 140), guard := some (138, true) },
  { dst := some 142, op := .mov (.t 14), guard := some (138, true) },
  { dst := some 143, op := .bin .eql (.t 141) (.t 142), guard := some (138, true) },
  { dst := some 144, op := .pick (.t 138) (.t 143) (.c (.bool false)) },
  { dst := some 8, op := .mov (.t 144) }]
def law22_NetworkRuns.c : ACode := (.seq (.dr (.ops law22_NetworkRuns.r0 false) [0, 8] []) (.seq (.seq (.dr (.ops law22_NetworkRuns.r1 false) [29, 30] []) (.cond (.t 31) (.seq (.dr (.ops law22_NetworkRuns.r2 false) [1, 2, 3, 4, 31, 32] []) .ret) .skip)) (.seq (.dr (.ops law22_NetworkRuns.r3 false) [4, 31, 33, 34] []) (.seq (.dr (.ops law22_NetworkRuns.r4 true) [1, 2, 35, 36, 37, 38, 39, 40, 41, 42, 43, 44, 45, 46] []) (.seq (.dr (.ops law22_NetworkRuns.r5 false) [47, 48, 49, 50, 51, 52, 53, 54, 55] []) (.seq (.dr (.ops law22_NetworkRuns.r6 false) [56, 57, 58, 59, 60, 61, 62, 63, 64] []) (.seq (.dr (.ops law22_NetworkRuns.r7 false) [3, 65, 66, 67, 68, 69] []) (.seq (.dr (.ops law22_NetworkRuns.r8 true) [10, 70, 71, 72, 73, 74, 75, 76, 77, 78, 79, 80] []) (.seq (.dr (.ops law22_NetworkRuns.r9 true) [9, 11, 20, 22, 81, 82, 83, 84, 85, 86, 87, 88, 89, 90, 91] []) (.seq (.dr (.ops law22_NetworkRuns.r10 false) [12, 13, 14, 15, 16, 17, 18, 19, 21, 23, 24, 25, 26, 27, 28, 92, 93, 94, 95, 96, 97, 98, 99, 100, 101, 102, 103, 104, 105, 106, 107, 108, 109, 110, 111, 112, 113, 114, 115, 116, 117, 118, 119, 120, 121, 122, 123, 124, 125, 126, 127, 128, 129, 130, 131, 132, 133, 134, 135, 136, 137, 138, 139, 140, 141, 142, 143, 144] []) .ret))))))))))
def law22_NetworkRuns : AFn := ⟨4, law22_NetworkRuns.c, [.tmp 8]⟩

/-- a library has these functions -/
structure RunGLib (L : Lib) : Prop extends NetLib L, WorldLib L where
  world_Raw_Net : L 42 = some F.world_Raw_Net
  network_Run : L 43 = some F.network_Run
  ref22_Run : L 44 = some F.ref22_Run
  law22_NetworkRuns : L 45 = some F.law22_NetworkRuns
def RunGList : List (Nat × AFn) := [(42, F.world_Raw_Net), (43, F.network_Run), (44, F.ref22_Run), (45, F.law22_NetworkRuns)]

end Go.Eng.F
