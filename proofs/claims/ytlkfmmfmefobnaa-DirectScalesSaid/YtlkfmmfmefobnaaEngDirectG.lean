/-
  Functions of the program, as the abstract machine reads them (group DirectG). Written by a program (gen.py) off the model's own reading of the translation; the seat's check ties them to it.
-/
import Derived.Test.YtlkfmmfmefobnaaEngCore
import Derived.Test.YtlkfmmfmefobnaaEngRunG
set_option linter.unusedSimpArgs false
set_option linter.unusedVariables false
set_option linter.unnecessarySimpa false
namespace Go.Eng.F

/-! direct_wrong -/
def direct_wrong.r0 : List AI := [
  { dst := some 6, op := .box 6 (.t 2) },
  { dst := some 7, op := .box 7 (.t 3) },
  { dst := some 8, op := .mov (.c (.int .i64 (0))) }]
def direct_wrong.r1 : List AI := [
  { dst := some 13, op := .ld true 4 (.t 6) },
  { dst := some 14, op := .call 2 [(.t 13)] },
  { dst := some 15, op := .un .not (.t 14) },
  { dst := some 16, op := .mov (.t 15) },
  { dst := some 17, op := .ld true 4 (.t 7), guard := some (16, false) },
  { dst := some 18, op := .call 2 [(.t 17)], guard := some (16, false) },
  { dst := some 19, op := .un .not (.t 18), guard := some (16, false) },
  { dst := some 20, op := .pick (.t 16) (.c (.bool true)) (.t 19) }]
def direct_wrong.r2 : List AI := [
  { dst := some 8, op := .mov (.c (.int .i64 (2))) }]
def direct_wrong.r3 : List AI := [
  { dst := some 21, op := .mov (.t 0) },
  { dst := some 22, op := .len (.t 21) },
  { dst := some 23, op := .bin .eql (.t 22) (.c (.int .i64 (0))) },
  { dst := some 24, op := .mov (.t 23) },
  { dst := some 25, op := .mov (.t 0), guard := some (24, false) },
  { dst := some 26, op := .len (.t 25), guard := some (24, false) },
  { dst := some 27, op := .bin .gtr (.t 26) (.c (.int .i64 (49))), guard := some (24, false) },
  { dst := some 28, op := .pick (.t 24) (.c (.bool true)) (.t 27) },
  { dst := some 29, op := .mov (.t 28) },
  { dst := some 30, op := .mov (.t 1), guard := some (29, false) },
  { dst := some 31, op := .len (.t 30), guard := some (29, false) },
  { dst := some 32, op := .bin .gtr (.t 31) (.c (.int .i64 (8))), guard := some (29, false) },
  { dst := some 33, op := .pick (.t 29) (.c (.bool true)) (.t 32) }]
def direct_wrong.r4 : List AI := [
  { dst := some 8, op := .mov (.c (.int .i64 (12))) }]
def direct_wrong.r5 : List AI := [
  { dst := some 34, op := .mov (.t 0) },
  { dst := some 35, op := .len (.t 34) },
  { dst := some 36, op := .mov (.c (.int .i64 (0))) }]
def direct_wrong.r6 : List AI := [
  { dst := some 37, op := .bin .lss (.t 36) (.t 35) }]
def direct_wrong.r7 : List AI := [
  { dst := some 38, op := .iadr none 1 (.t 34) (.t 36) },
  { dst := some 39, op := .ld false 1 (.t 38) },
  { dst := some 10, op := .mov (.t 39) }]
def direct_wrong.r8 : List AI := [
  { dst := some 40, op := .ld true 4 (.t 7) },
  { dst := some 41, op := .mov (.t 10) },
  { dst := some 42, op := .call 5 [(.t 40), (.t 41)] },
  { dst := some 43, op := .un .not (.t 42) }]
def direct_wrong.r9 : List AI := [
  { dst := some 8, op := .mov (.c (.int .i64 (17))) }]
def direct_wrong.r10 : List AI := [
  { dst := some 44, op := .bin .add (.t 36) (.c (.int .i64 (1))) },
  { dst := some 36, op := .mov (.t 44) }]
def direct_wrong.r11 : List AI := [
  { dst := some 45, op := .mov (.t 1) },
  { dst := some 46, op := .len (.t 45) },
  { dst := some 47, op := .mov (.c (.int .i64 (0))) }]
def direct_wrong.r12 : List AI := [
  { dst := some 48, op := .bin .lss (.t 47) (.t 46) }]
def direct_wrong.r13 : List AI := [
  { dst := some 49, op := .iadr none 1 (.t 45) (.t 47) },
  { dst := some 50, op := .ld false 1 (.t 49) },
  { dst := some 12, op := .mov (.t 50) }]
def direct_wrong.r14 : List AI := [
  { dst := some 51, op := .ld true 4 (.t 7) },
  { dst := some 52, op := .mov (.t 12) },
  { dst := some 53, op := .call 5 [(.t 51), (.t 52)] },
  { dst := some 54, op := .un .not (.t 53) },
  { dst := some 55, op := .mov (.t 54) },
  { dst := some 56, op := .ld true 4 (.t 7), guard := some (55, false) },
  { dst := some 57, op := .mov (.t 12), guard := some (55, false) },
  { dst := some 58, op := .un .neg (.t 57), guard := some (55, false) },
  { dst := some 59, op := .call 5 [(.t 56), (.t 58)], guard := some (55, false) },
  { dst := some 60, op := .un .not (.t 59), guard := some (55, false) },
  { dst := some 61, op := .pick (.t 55) (.c (.bool true)) (.t 60) }]
def direct_wrong.r15 : List AI := [
  { dst := some 8, op := .mov (.c (.int .i64 (17))) }]
def direct_wrong.r16 : List AI := [
  { dst := some 62, op := .bin .add (.t 47) (.c (.int .i64 (1))) },
  { dst := some 47, op := .mov (.t 62) }]
def direct_wrong.r17 : List AI := [
  { dst := some 8, op := .mov (.c (.int .i64 (0))) }]
def direct_wrong.l1 : ACode := (.seq (.ops direct_wrong.r6 false) (.seq (.cond (.t 37) .skip (.exit 0)) (.seq (.block 1 (.seq (.dr (.ops direct_wrong.r7 false) [37, 38, 39] []) (.seq (.dr (.ops direct_wrong.r8 false) [10, 40, 41, 42] []) (.cond (.t 43) (.seq (.dr (.ops direct_wrong.r9 false) [1, 7, 34, 35, 36, 43] []) .ret) .skip)))) (.dr (.ops direct_wrong.r10 false) [43, 44] []))))
def direct_wrong.l2 : ACode := (.seq (.ops direct_wrong.r12 false) (.seq (.cond (.t 48) .skip (.exit 2)) (.seq (.block 3 (.seq (.dr (.ops direct_wrong.r13 false) [48, 49, 50] []) (.seq (.dr (.ops direct_wrong.r14 false) [12, 51, 52, 53, 54, 55, 56, 57, 58, 59, 60] []) (.cond (.t 61) (.seq (.dr (.ops direct_wrong.r15 false) [7, 45, 46, 47, 61] []) .ret) .skip)))) (.dr (.ops direct_wrong.r16 false) [61, 62] []))))
def direct_wrong.c : ACode := (.seq (.dr (.ops direct_wrong.r0 false) [2, 3, 8] []) (.seq (.seq (.dr (.ops direct_wrong.r1 false) [6, 13, 14, 15, 16, 17, 18, 19] []) (.cond (.t 20) (.seq (.dr (.ops direct_wrong.r2 false) [0, 1, 7, 20] []) .ret) .skip)) (.seq (.seq (.dr (.ops direct_wrong.r3 false) [20, 21, 22, 23, 24, 25, 26, 27, 28, 29, 30, 31, 32] []) (.cond (.t 33) (.seq (.dr (.ops direct_wrong.r4 false) [0, 1, 7, 33] []) .ret) .skip)) (.seq (.seq (.dr (.ops direct_wrong.r5 false) [0, 33] []) (.block 0 (.loop direct_wrong.l1))) (.seq (.seq (.dr (.ops direct_wrong.r11 false) [1, 34, 35, 36, 37] []) (.block 2 (.loop direct_wrong.l2))) (.seq (.dr (.ops direct_wrong.r17 false) [7, 45, 46, 47, 48] []) .ret))))))
def direct_wrong : AFn := ⟨4, direct_wrong.c, [.tmp 8]⟩

/-! direct_row -/
def direct_row.r0 : List AI := [
  { dst := some 6, op := .mov (.c .nil) }]
def direct_row.r1 : List AI := [
  { dst := some 10, op := .mov (.t 0) },
  { dst := some 11, op := .len (.t 10) },
  { dst := some 12, op := .mk 12 2 16 [(.int .i64 (0)), (.int .i64 (0))] (.t 11) (.t 11) },
  { dst := some 7, op := .mov (.t 12) }]
def direct_row.r2 : List AI := [
  { dst := some 13, op := .mov (.t 0) },
  { dst := some 14, op := .len (.t 13) },
  { dst := some 15, op := .mov (.c (.int .i64 (0))) }]
def direct_row.r3 : List AI := [
  { dst := some 16, op := .bin .lss (.t 15) (.t 14) }]
def direct_row.r4 : List AI := [
  { dst := some 17, op := .mov (.t 15) },
  { dst := some 18, op := .iadr none 1 (.t 13) (.t 15) },
  { dst := some 19, op := .ld false 1 (.t 18) },
  { dst := some 8, op := .mov (.t 17) },
  { dst := some 9, op := .mov (.t 19) }]
def direct_row.r5 : List AI := [
  { dst := some 20, op := .mov (.t 7) },
  { dst := some 21, op := .mov (.t 8) },
  { dst := some 22, op := .mov (.t 2) },
  { dst := some 23, op := .mov (.t 8) },
  { dst := some 24, op := .bin .add (.t 22) (.t 23) },
  { dst := some 25, op := .mov (.t 1) },
  { dst := some 26, op := .mov (.t 9) },
  { dst := some 27, op := .bin .mul (.t 25) (.t 26) },
  { dst := some 28, op := .build [(.int .i64 (0)), (.int .i64 (0))] [(0, 1, (.t 24)), (1, 1, (.t 27))] },
  { dst := some 29, op := .iadr none 2 (.t 20) (.t 21) },
  { dst := none, op := .st 2 (.t 29) (.t 28) }]
def direct_row.r6 : List AI := [
  { dst := some 30, op := .bin .add (.t 15) (.c (.int .i64 (1))) },
  { dst := some 15, op := .mov (.t 30) }]
def direct_row.r7 : List AI := [
  { dst := some 31, op := .mov (.t 7) },
  { dst := some 6, op := .mov (.t 31) }]
def direct_row.l1 : ACode := (.seq (.ops direct_row.r3 false) (.seq (.cond (.t 16) .skip (.exit 0)) (.seq (.block 1 (.seq (.dr (.ops direct_row.r4 false) [16, 17, 18, 19] []) (.dr (.ops direct_row.r5 false) [8, 9, 20, 21, 22, 23, 24, 25, 26, 27, 28, 29] []))) (.dr (.ops direct_row.r6 false) [30] []))))
def direct_row.c : ACode := (.seq (.dr (.ops direct_row.r0 false) [6] []) (.seq (.dr (.ops direct_row.r1 false) [10, 11, 12] []) (.seq (.seq (.dr (.ops direct_row.r2 false) [0] []) (.block 0 (.loop direct_row.l1))) (.seq (.dr (.ops direct_row.r7 false) [1, 2, 7, 13, 14, 15, 16, 31] []) .ret))))
def direct_row : AFn := ⟨3, direct_row.c, [.tmp 6]⟩

/-! direct_join -/
def direct_join.r0 : List AI := [
  { dst := some 2, op := .mov (.c .nil) }]
def direct_join.r1 : List AI := [
  { dst := some 3, op := .vrow 3 2 }]
def direct_join.r2 : List AI := [
  { dst := some 6, op := .mov (.t 0) },
  { dst := some 7, op := .len (.t 6) },
  { dst := some 8, op := .mov (.c (.int .i64 (0))) }]
def direct_join.r3 : List AI := [
  { dst := some 9, op := .bin .lss (.t 8) (.t 7) }]
def direct_join.r4 : List AI := [
  { dst := some 10, op := .iadr none 1 (.t 6) (.t 8) },
  { dst := some 11, op := .ld false 1 (.t 10) },
  { dst := some 5, op := .mov (.t 11) }]
def direct_join.r5 : List AI := [
  { dst := some 12, op := .mov (.t 3) },
  { dst := some 13, op := .mov (.t 5) },
  { dst := some 14, op := .app 14 2 16 (.t 12) (.t 13) },
  { dst := some 3, op := .mov (.t 14) }]
def direct_join.r6 : List AI := [
  { dst := some 15, op := .bin .add (.t 8) (.c (.int .i64 (1))) },
  { dst := some 8, op := .mov (.t 15) }]
def direct_join.r7 : List AI := [
  { dst := some 16, op := .mov (.t 3) },
  { dst := some 2, op := .mov (.t 16) }]
def direct_join.l1 : ACode := (.seq (.ops direct_join.r3 false) (.seq (.cond (.t 9) .skip (.exit 0)) (.seq (.block 1 (.seq (.dr (.ops direct_join.r4 false) [9, 10, 11] []) (.dr (.ops direct_join.r5 false) [5, 12, 13, 14] []))) (.dr (.ops direct_join.r6 false) [15] []))))
def direct_join.c : ACode := (.seq (.dr (.ops direct_join.r0 false) [2] []) (.seq (.ops direct_join.r1 false) (.seq (.seq (.dr (.ops direct_join.r2 false) [0] []) (.block 0 (.loop direct_join.l1))) (.seq (.dr (.ops direct_join.r7 false) [3, 6, 7, 8, 9, 16] []) .ret))))
def direct_join : AFn := ⟨1, direct_join.c, [.tmp 2]⟩

/-! direct_delay -/
def direct_delay.r0 : List AI := [
  { dst := some 7, op := .mov (.t 0) },
  { dst := some 8, op := .len (.t 7) },
  { dst := some 9, op := .mov (.c (.int .i64 (0))) }]
def direct_delay.r1 : List AI := [
  { dst := some 10, op := .bin .lss (.t 9) (.t 8) }]
def direct_delay.r2 : List AI := [
  { dst := some 11, op := .mov (.t 9) },
  { dst := some 6, op := .mov (.t 11) }]
def direct_delay.r3 : List AI := [
  { dst := some 12, op := .mov (.t 6) },
  { dst := some 13, op := .bin .eql (.t 12) (.c (.int .i64 (0))) }]
def direct_delay.r4 : List AI := [
  { dst := some 14, op := .mov (.t 0) },
  { dst := some 15, op := .mov (.t 6) },
  { dst := some 16, op := .mov (.t 2) },
  { dst := some 17, op := .iadr none 1 (.t 14) (.t 15) },
  { dst := none, op := .st 1 (.t 17) (.t 16) }]
def direct_delay.r5 : List AI := [
  { dst := some 18, op := .mov (.t 0) },
  { dst := some 19, op := .mov (.t 6) },
  { dst := some 20, op := .mov (.t 1) },
  { dst := some 21, op := .mov (.t 6) },
  { dst := some 22, op := .bin .add (.t 20) (.t 21) },
  { dst := some 23, op := .bin .sub (.t 22) (.c (.int .i64 (1))) },
  { dst := some 24, op := .iadr none 1 (.t 18) (.t 19) },
  { dst := none, op := .st 1 (.t 24) (.t 23) }]
def direct_delay.r6 : List AI := [
  { dst := some 25, op := .bin .add (.t 9) (.c (.int .i64 (1))) },
  { dst := some 9, op := .mov (.t 25) }]
def direct_delay.l1 : ACode := (.seq (.ops direct_delay.r1 false) (.seq (.cond (.t 10) .skip (.exit 0)) (.seq (.block 1 (.seq (.dr (.ops direct_delay.r2 false) [10, 11] []) (.seq (.dr (.ops direct_delay.r3 false) [12] []) (.cond (.t 13) (.dr (.ops direct_delay.r4 false) [6, 13, 14, 15, 16, 17] []) (.dr (.ops direct_delay.r5 false) [6, 13, 18, 19, 20, 21, 22, 23, 24] []))))) (.dr (.ops direct_delay.r6 false) [25] []))))
def direct_delay.c : ACode := (.seq (.dr (.ops direct_delay.r0 false) [7] []) (.block 0 (.loop direct_delay.l1)))
def direct_delay : AFn := ⟨3, direct_delay.c, []⟩

/-! direct_FormOne -/
def direct_FormOne.r0 : List AI := [
  { dst := some 6, op := .box 6 (.t 2) },
  { dst := some 7, op := .box 7 (.t 3) },
  { dst := some 8, op := .alloc 8 [(.int .i64 (0)), (.int .i64 (0)), (.int .i64 (0)), (.int .i64 (0)), (.int .i64 (0)), (.int .i64 (0)), (.int .i64 (0)), (.int .i64 (0)), (.int .i64 (0)), .nil, .nil, (.int .i64 (0))] },
  { dst := some 9, op := .mov (.c (.int .i64 (0))) }]
def direct_FormOne.r1 : List AI := [
  { dst := some 14, op := .mov (.t 0) },
  { dst := some 15, op := .mov (.t 1) },
  { dst := some 16, op := .ld true 4 (.t 6) },
  { dst := some 17, op := .ld true 4 (.t 7) },
  { dst := some 18, op := .call 46 [(.t 14), (.t 15), (.t 16), (.t 17)] },
  { dst := some 10, op := .mov (.t 18) }]
def direct_FormOne.r2 : List AI := [
  { dst := some 19, op := .mov (.t 10) },
  { dst := some 20, op := .bin .neq (.t 19) (.c (.int .i64 (0))) }]
def direct_FormOne.r3 : List AI := [
  { dst := some 21, op := .build [(.int .i64 (0)), (.int .i64 (0)), (.int .i64 (0)), (.int .i64 (0)), (.int .i64 (0)), (.int .i64 (0)), (.int .i64 (0)), (.int .i64 (0)), (.int .i64 (0)), .nil, .nil, (.int .i64 (0))] [] },
  { dst := some 22, op := .mov (.t 10) },
  { dst := none, op := .st 12 (.t 8) (.t 21) },
  { dst := some 9, op := .mov (.t 22) }]
def direct_FormOne.r4 : List AI := [
  { dst := some 23, op := .mov (.t 0) },
  { dst := some 24, op := .len (.t 23) },
  { dst := some 25, op := .bin .sub (.t 24) (.c (.int .i64 (1))) },
  { dst := some 11, op := .mov (.t 25) }]
def direct_FormOne.r5 : List AI := [
  { dst := some 26, op := .mov (.t 11) },
  { dst := some 27, op := .mov (.t 1) },
  { dst := some 28, op := .len (.t 27) },
  { dst := some 29, op := .bin .add (.t 26) (.t 28) },
  { dst := some 12, op := .mov (.t 29) }]
def direct_FormOne.r6 : List AI := [
  { dst := some 30, op := .ld true 4 (.t 6), ban := [34, 13] },
  { dst := some 31, op := .ld true 4 (.t 7), ban := [34, 13] },
  { dst := some 32, op := .mov (.t 12) },
  { dst := some 33, op := .mov (.t 12) },
  { dst := some 34, op := .mk 34 1 8 [(.int .i64 (0))] (.t 33) (.t 33) },
  { dst := some 35, op := .mov (.t 12) },
  { dst := some 36, op := .bin .add (.t 35) (.c (.int .i64 (1))) },
  { dst := some 37, op := .build [(.int .i64 (0)), (.int .i64 (0)), (.int .i64 (0)), (.int .i64 (0)), (.int .i64 (0)), (.int .i64 (0)), (.int .i64 (0)), (.int .i64 (0)), (.int .i64 (0)), .nil, .nil, (.int .i64 (0))] [(0, 4, (.t 30)), (4, 4, (.t 31)), (8, 1, (.t 32)), (10, 1, (.t 34)), (11, 1, (.t 36))] },
  { dst := some 13, op := .alloc 13 [(.int .i64 (0)), (.int .i64 (0)), (.int .i64 (0)), (.int .i64 (0)), (.int .i64 (0)), (.int .i64 (0)), (.int .i64 (0)), (.int .i64 (0)), (.int .i64 (0)), .nil, .nil, (.int .i64 (0))] },
  { dst := none, op := .st 12 (.t 13) (.t 37) }]
def direct_FormOne.r7 : List AI := [
  { dst := some 38, op := .mov (.t 0) },
  { dst := some 39, op := .call 47 [(.t 38), (.c (.int .i64 (1))), (.c (.int .i64 (0)))] },
  { dst := some 40, op := .mov (.t 1) },
  { dst := some 41, op := .mov (.t 11) },
  { dst := some 42, op := .bin .add (.t 41) (.c (.int .i64 (1))) },
  { dst := some 43, op := .call 47 [(.t 40), (.c (.int .i64 (-1))), (.t 42)] },
  { dst := some 44, op := .bslice 44 1 [(.t 39), (.t 43)] },
  { dst := some 45, op := .call 48 [(.t 44)] },
  { dst := some 46, op := .build [.nil] [(0, 1, (.t 45))] },
  { dst := some 47, op := .bslice 47 1 [(.t 46)] },
  { dst := some 48, op := .fadr (.t 13) 9 },
  { dst := none, op := .st 1 (.t 48) (.t 47) }]
def direct_FormOne.r8 : List AI := [
  { dst := some 49, op := .fadr (.t 13) 10 },
  { dst := some 50, op := .ld false 1 (.t 49) },
  { dst := some 51, op := .mov (.t 11) },
  { dst := some 52, op := .slc 1 (.t 50) none (some (.t 51)) },
  { dst := some 53, op := .calli 49 [(.t 52), (.c (.int .i64 (1))), (.c (.int .i64 (0)))] }]
def direct_FormOne.r9 : List AI := [
  { dst := some 54, op := .fadr (.t 13) 10 },
  { dst := some 55, op := .ld false 1 (.t 54) },
  { dst := some 56, op := .mov (.t 11) },
  { dst := some 57, op := .slc 1 (.t 55) (some (.t 56)) none },
  { dst := some 58, op := .mov (.t 11) },
  { dst := some 59, op := .bin .add (.t 58) (.c (.int .i64 (1))) },
  { dst := some 60, op := .fadr (.t 13) 11 },
  { dst := some 61, op := .ld false 1 (.t 60) },
  { dst := some 62, op := .calli 49 [(.t 57), (.t 59), (.t 61)] }]
def direct_FormOne.r10 : List AI := [
  { dst := some 63, op := .ld true 12 (.t 13) },
  { dst := none, op := .st 12 (.t 8) (.t 63) },
  { dst := some 9, op := .mov (.c (.int .i64 (0))) }]
def direct_FormOne.c : ACode := (.seq (.dr (.ops direct_FormOne.r0 false) [2, 3, 9] []) (.seq (.seq (.dr (.ops direct_FormOne.r1 false) [14, 15, 16, 17, 18] []) (.seq (.dr (.ops direct_FormOne.r2 false) [19] []) (.cond (.t 20) (.seq (.dr (.ops direct_FormOne.r3 false) [0, 1, 6, 7, 10, 20, 21, 22] []) .ret) .skip))) (.seq (.dr (.ops direct_FormOne.r4 false) [10, 20, 23, 24, 25] []) (.seq (.dr (.ops direct_FormOne.r5 false) [26, 27, 28, 29] []) (.seq (.dr (.ops direct_FormOne.r6 true) [6, 7, 12, 30, 31, 32, 33, 34, 35, 36, 37] []) (.seq (.dr (.ops direct_FormOne.r7 false) [0, 1, 38, 39, 40, 41, 42, 43, 44, 45, 46, 47, 48] []) (.seq (.dr (.ops direct_FormOne.r8 false) [49, 50, 51, 52, 53] []) (.seq (.dr (.ops direct_FormOne.r9 true) [11, 54, 55, 56, 57, 58, 59, 60, 61, 62] []) (.seq (.dr (.ops direct_FormOne.r10 false) [13, 63] []) .ret)))))))))
def direct_FormOne : AFn := ⟨4, direct_FormOne.c, [.cell 8 true 12, .tmp 9]⟩

/-! direct_FormTwo -/
def direct_FormTwo.r0 : List AI := [
  { dst := some 6, op := .box 6 (.t 2) },
  { dst := some 7, op := .box 7 (.t 3) },
  { dst := some 8, op := .alloc 8 [(.int .i64 (0)), (.int .i64 (0)), (.int .i64 (0)), (.int .i64 (0)), (.int .i64 (0)), (.int .i64 (0)), (.int .i64 (0)), (.int .i64 (0)), (.int .i64 (0)), .nil, .nil, (.int .i64 (0))] },
  { dst := some 9, op := .mov (.c (.int .i64 (0))) }]
def direct_FormTwo.r1 : List AI := [
  { dst := some 15, op := .mov (.t 0) },
  { dst := some 16, op := .mov (.t 1) },
  { dst := some 17, op := .ld true 4 (.t 6) },
  { dst := some 18, op := .ld true 4 (.t 7) },
  { dst := some 19, op := .call 46 [(.t 15), (.t 16), (.t 17), (.t 18)] },
  { dst := some 10, op := .mov (.t 19) }]
def direct_FormTwo.r2 : List AI := [
  { dst := some 20, op := .mov (.t 10) },
  { dst := some 21, op := .bin .neq (.t 20) (.c (.int .i64 (0))) }]
def direct_FormTwo.r3 : List AI := [
  { dst := some 22, op := .build [(.int .i64 (0)), (.int .i64 (0)), (.int .i64 (0)), (.int .i64 (0)), (.int .i64 (0)), (.int .i64 (0)), (.int .i64 (0)), (.int .i64 (0)), (.int .i64 (0)), .nil, .nil, (.int .i64 (0))] [] },
  { dst := some 23, op := .mov (.t 10) },
  { dst := none, op := .st 12 (.t 8) (.t 22) },
  { dst := some 9, op := .mov (.t 23) }]
def direct_FormTwo.r4 : List AI := [
  { dst := some 24, op := .mov (.t 0) },
  { dst := some 25, op := .len (.t 24) },
  { dst := some 26, op := .bin .sub (.t 25) (.c (.int .i64 (1))) },
  { dst := some 27, op := .mov (.t 1) },
  { dst := some 28, op := .len (.t 27) },
  { dst := some 29, op := .mm true [(.t 26), (.t 28)] },
  { dst := some 11, op := .mov (.t 29) }]
def direct_FormTwo.r5 : List AI := [
  { dst := some 30, op := .mov (.t 11) },
  { dst := some 31, op := .bin .add (.t 30) (.c (.int .i64 (1))) },
  { dst := some 12, op := .mov (.t 31) }]
def direct_FormTwo.r6 : List AI := [
  { dst := some 32, op := .ld true 4 (.t 6), ban := [36, 13] },
  { dst := some 33, op := .ld true 4 (.t 7), ban := [36, 13] },
  { dst := some 34, op := .mov (.t 11) },
  { dst := some 35, op := .mov (.t 11) },
  { dst := some 36, op := .mk 36 1 8 [(.int .i64 (0))] (.t 35) (.t 35) },
  { dst := some 37, op := .mov (.t 12) },
  { dst := some 38, op := .bin .add (.t 37) (.c (.int .i64 (1))) },
  { dst := some 39, op := .build [(.int .i64 (0)), (.int .i64 (0)), (.int .i64 (0)), (.int .i64 (0)), (.int .i64 (0)), (.int .i64 (0)), (.int .i64 (0)), (.int .i64 (0)), (.int .i64 (0)), .nil, .nil, (.int .i64 (0))] [(0, 4, (.t 32)), (4, 4, (.t 33)), (8, 1, (.t 34)), (10, 1, (.t 36)), (11, 1, (.t 38))] },
  { dst := some 13, op := .alloc 13 [(.int .i64 (0)), (.int .i64 (0)), (.int .i64 (0)), (.int .i64 (0)), (.int .i64 (0)), (.int .i64 (0)), (.int .i64 (0)), (.int .i64 (0)), (.int .i64 (0)), .nil, .nil, (.int .i64 (0))] },
  { dst := none, op := .st 12 (.t 13) (.t 39) }]
def direct_FormTwo.r7 : List AI := [
  { dst := some 40, op := .fadr (.t 7) 1 },
  { dst := some 41, op := .ld false 1 (.t 40) },
  { dst := some 42, op := .bin .shl (.c (.int .i64 (1))) (.t 41) },
  { dst := some 43, op := .bslice 43 1 [(.t 42)] },
  { dst := some 14, op := .mov (.t 43) }]
def direct_FormTwo.r8 : List AI := [
  { dst := some 44, op := .mov (.t 14) },
  { dst := some 45, op := .call 47 [(.t 44), (.c (.int .i64 (1))), (.c (.int .i64 (0)))] },
  { dst := some 46, op := .mov (.t 1) },
  { dst := some 47, op := .call 47 [(.t 46), (.c (.int .i64 (-1))), (.c (.int .i64 (1)))] },
  { dst := some 48, op := .bslice 48 1 [(.t 45), (.t 47)] },
  { dst := some 49, op := .call 48 [(.t 48)] },
  { dst := some 50, op := .build [.nil] [(0, 1, (.t 49))] },
  { dst := some 51, op := .mov (.t 0) },
  { dst := some 52, op := .slc 1 (.t 51) none (some (.c (.int .i64 (1)))) },
  { dst := some 53, op := .mov (.t 12) },
  { dst := some 54, op := .call 47 [(.t 52), (.c (.int .i64 (1))), (.t 53)] },
  { dst := some 55, op := .mov (.t 0) },
  { dst := some 56, op := .slc 1 (.t 55) (some (.c (.int .i64 (1)))) none },
  { dst := some 57, op := .call 47 [(.t 56), (.c (.int .i64 (1))), (.c (.int .i64 (1)))] },
  { dst := some 58, op := .bslice 58 1 [(.t 54), (.t 57)] },
  { dst := some 59, op := .call 48 [(.t 58)] },
  { dst := some 60, op := .build [.nil] [(0, 1, (.t 59))] },
  { dst := some 61, op := .bslice 61 1 [(.t 50), (.t 60)] },
  { dst := some 62, op := .fadr (.t 13) 9 },
  { dst := none, op := .st 1 (.t 62) (.t 61) }]
def direct_FormTwo.r9 : List AI := [
  { dst := some 63, op := .fadr (.t 13) 10 },
  { dst := some 64, op := .ld false 1 (.t 63) },
  { dst := some 65, op := .mov (.t 12) },
  { dst := some 66, op := .calli 49 [(.t 64), (.c (.int .i64 (1))), (.t 65)] }]
def direct_FormTwo.r10 : List AI := [
  { dst := some 67, op := .ld true 12 (.t 13) },
  { dst := none, op := .st 12 (.t 8) (.t 67) },
  { dst := some 9, op := .mov (.c (.int .i64 (0))) }]
def direct_FormTwo.c : ACode := (.seq (.dr (.ops direct_FormTwo.r0 false) [2, 3, 9] []) (.seq (.seq (.dr (.ops direct_FormTwo.r1 false) [15, 16, 17, 18, 19] []) (.seq (.dr (.ops direct_FormTwo.r2 false) [20] []) (.cond (.t 21) (.seq (.dr (.ops direct_FormTwo.r3 false) [0, 1, 6, 7, 10, 21, 22, 23] []) .ret) .skip))) (.seq (.dr (.ops direct_FormTwo.r4 false) [10, 21, 24, 25, 26, 27, 28, 29] []) (.seq (.dr (.ops direct_FormTwo.r5 false) [30, 31] []) (.seq (.dr (.ops direct_FormTwo.r6 true) [6, 11, 32, 33, 34, 35, 36, 37, 38, 39] []) (.seq (.dr (.ops direct_FormTwo.r7 false) [7, 40, 41, 42, 43] []) (.seq (.dr (.ops direct_FormTwo.r8 true) [0, 1, 14, 44, 45, 46, 47, 48, 49, 50, 51, 52, 53, 54, 55, 56, 57, 58, 59, 60, 61, 62] []) (.seq (.dr (.ops direct_FormTwo.r9 false) [12, 63, 64, 65, 66] []) (.seq (.dr (.ops direct_FormTwo.r10 false) [13, 67] []) .ret)))))))))
def direct_FormTwo : AFn := ⟨4, direct_FormTwo.c, [.cell 8 true 12, .tmp 9]⟩

/-! direct_Transposed -/
def direct_Transposed.r0 : List AI := [
  { dst := some 6, op := .box 6 (.t 2) },
  { dst := some 7, op := .box 7 (.t 3) },
  { dst := some 8, op := .alloc 8 [(.int .i64 (0)), (.int .i64 (0)), (.int .i64 (0)), (.int .i64 (0)), (.int .i64 (0)), (.int .i64 (0)), (.int .i64 (0)), (.int .i64 (0)), (.int .i64 (0)), .nil, .nil, (.int .i64 (0))] },
  { dst := some 9, op := .mov (.c (.int .i64 (0))) }]
def direct_Transposed.r1 : List AI := [
  { dst := some 17, op := .mov (.t 0) },
  { dst := some 18, op := .mov (.t 1) },
  { dst := some 19, op := .ld true 4 (.t 6) },
  { dst := some 20, op := .ld true 4 (.t 7) },
  { dst := some 21, op := .call 46 [(.t 17), (.t 18), (.t 19), (.t 20)] },
  { dst := some 10, op := .mov (.t 21) }]
def direct_Transposed.r2 : List AI := [
  { dst := some 22, op := .mov (.t 10) },
  { dst := some 23, op := .bin .neq (.t 22) (.c (.int .i64 (0))) }]
def direct_Transposed.r3 : List AI := [
  { dst := some 24, op := .build [(.int .i64 (0)), (.int .i64 (0)), (.int .i64 (0)), (.int .i64 (0)), (.int .i64 (0)), (.int .i64 (0)), (.int .i64 (0)), (.int .i64 (0)), (.int .i64 (0)), .nil, .nil, (.int .i64 (0))] [] },
  { dst := some 25, op := .mov (.t 10) },
  { dst := none, op := .st 12 (.t 8) (.t 24) },
  { dst := some 9, op := .mov (.t 25) }]
def direct_Transposed.r4 : List AI := [
  { dst := some 26, op := .mov (.t 0) },
  { dst := some 27, op := .len (.t 26) },
  { dst := some 28, op := .bin .sub (.t 27) (.c (.int .i64 (1))) },
  { dst := some 29, op := .mov (.t 1) },
  { dst := some 30, op := .len (.t 29) },
  { dst := some 31, op := .mm true [(.t 28), (.t 30)] },
  { dst := some 11, op := .mov (.t 31) }]
def direct_Transposed.r5 : List AI := [
  { dst := some 32, op := .mov (.t 11) },
  { dst := some 33, op := .bin .add (.t 32) (.c (.int .i64 (1))) },
  { dst := some 12, op := .mov (.t 33) }]
def direct_Transposed.r6 : List AI := [
  { dst := some 34, op := .ld true 4 (.t 6), ban := [38, 13] },
  { dst := some 35, op := .ld true 4 (.t 7), ban := [38, 13] },
  { dst := some 36, op := .mov (.t 11) },
  { dst := some 37, op := .mov (.t 11) },
  { dst := some 38, op := .mk 38 1 8 [(.int .i64 (0))] (.t 37) (.t 37) },
  { dst := some 39, op := .mov (.t 12) },
  { dst := some 40, op := .build [(.int .i64 (0)), (.int .i64 (0)), (.int .i64 (0)), (.int .i64 (0)), (.int .i64 (0)), (.int .i64 (0)), (.int .i64 (0)), (.int .i64 (0)), (.int .i64 (0)), .nil, .nil, (.int .i64 (0))] [(0, 4, (.t 34)), (4, 4, (.t 35)), (8, 1, (.t 36)), (10, 1, (.t 38)), (11, 1, (.t 39))] },
  { dst := some 13, op := .alloc 13 [(.int .i64 (0)), (.int .i64 (0)), (.int .i64 (0)), (.int .i64 (0)), (.int .i64 (0)), (.int .i64 (0)), (.int .i64 (0)), (.int .i64 (0)), (.int .i64 (0)), .nil, .nil, (.int .i64 (0))] },
  { dst := none, op := .st 12 (.t 13) (.t 40) }]
def direct_Transposed.r7 : List AI := [
  { dst := some 41, op := .fadr (.t 7) 1 },
  { dst := some 42, op := .ld false 1 (.t 41) },
  { dst := some 43, op := .bin .shl (.c (.int .i64 (1))) (.t 42) },
  { dst := some 44, op := .bslice 44 1 [(.t 43)] },
  { dst := some 14, op := .mov (.t 44) }]
def direct_Transposed.r8 : List AI := [
  { dst := some 45, op := .mov (.t 11) },
  { dst := some 46, op := .bin .add (.t 45) (.c (.int .i64 (1))) },
  { dst := some 47, op := .mov (.c (.int .i64 (0))) }]
def direct_Transposed.r9 : List AI := [
  { dst := some 48, op := .bin .lss (.t 47) (.t 46) }]
def direct_Transposed.r10 : List AI := [
  { dst := some 49, op := .mov (.t 47) },
  { dst := some 15, op := .mov (.t 49) }]
def direct_Transposed.r11 : List AI := [
  { dst := some 16, op := .mov (.c .nil) }]
def direct_Transposed.r12 : List AI := [
  { dst := some 50, op := .mov (.t 15) },
  { dst := some 51, op := .mov (.t 0) },
  { dst := some 52, op := .len (.t 51) },
  { dst := some 53, op := .bin .lss (.t 50) (.t 52) }]
def direct_Transposed.r13 : List AI := [
  { dst := some 54, op := .mov (.t 16) },
  { dst := some 55, op := .mov (.t 0) },
  { dst := some 56, op := .mov (.t 15) },
  { dst := some 57, op := .mov (.t 15) },
  { dst := some 58, op := .bin .add (.t 57) (.c (.int .i64 (1))) },
  { dst := some 59, op := .slc 1 (.t 55) (some (.t 56)) (some (.t 58)) },
  { dst := some 60, op := .call 47 [(.t 59), (.c (.int .i64 (1))), (.c (.int .i64 (0)))] },
  { dst := some 61, op := .bslice 61 1 [(.t 54), (.t 60)] },
  { dst := some 62, op := .call 48 [(.t 61)] },
  { dst := some 16, op := .mov (.t 62) }]
def direct_Transposed.r14 : List AI := [
  { dst := some 63, op := .mov (.t 15) },
  { dst := some 64, op := .bin .geq (.t 63) (.c (.int .i64 (1))) },
  { dst := some 65, op := .mov (.t 64) },
  { dst := some 66, op := .mov (.t 15), guard := some (65, true) },
  { dst := some 67, op := .mov (.t 1), guard := some (65, true) },
  { dst := some 68, op := .len (.t 67), guard := some (65, true) },
  { dst := some 69, op := .bin .leq (.t 66) (.t 68), guard := some (65, true) },
  { dst := some 70, op := .pick (.t 65) (.t 69) (.c (.bool false)) }]
def direct_Transposed.r15 : List AI := [
  { dst := some 71, op := .mov (.t 16) },
  { dst := some 72, op := .mov (.t 1) },
  { dst := some 73, op := .mov (.t 15) },
  { dst := some 74, op := .bin .sub (.t 73) (.c (.int .i64 (1))) },
  { dst := some 75, op := .mov (.t 15) },
  { dst := some 76, op := .slc 1 (.t 72) (some (.t 74)) (some (.t 75)) },
  { dst := some 77, op := .mov (.t 12) },
  { dst := some 78, op := .call 47 [(.t 76), (.c (.int .i64 (-1))), (.t 77)] },
  { dst := some 79, op := .bslice 79 1 [(.t 71), (.t 78)] },
  { dst := some 80, op := .call 48 [(.t 79)] },
  { dst := some 16, op := .mov (.t 80) }]
def direct_Transposed.r16 : List AI := [
  { dst := some 81, op := .mov (.t 15) },
  { dst := some 82, op := .mov (.t 11) },
  { dst := some 83, op := .bin .lss (.t 81) (.t 82) }]
def direct_Transposed.r17 : List AI := [
  { dst := some 84, op := .mov (.t 16) },
  { dst := some 85, op := .mov (.t 14) },
  { dst := some 86, op := .mov (.t 15) },
  { dst := some 87, op := .bin .add (.t 86) (.c (.int .i64 (1))) },
  { dst := some 88, op := .call 47 [(.t 85), (.c (.int .i64 (1))), (.t 87)] },
  { dst := some 89, op := .bslice 89 1 [(.t 84), (.t 88)] },
  { dst := some 90, op := .call 48 [(.t 89)] },
  { dst := some 16, op := .mov (.t 90) }]
def direct_Transposed.r18 : List AI := [
  { dst := some 91, op := .mov (.t 15) },
  { dst := some 92, op := .bin .geq (.t 91) (.c (.int .i64 (1))) }]
def direct_Transposed.r19 : List AI := [
  { dst := some 93, op := .fadr (.t 13) 10 },
  { dst := some 94, op := .ld false 1 (.t 93) },
  { dst := some 95, op := .mov (.t 15) },
  { dst := some 96, op := .bin .sub (.t 95) (.c (.int .i64 (1))) },
  { dst := some 97, op := .mov (.t 12) },
  { dst := some 98, op := .mov (.t 15) },
  { dst := some 99, op := .bin .add (.t 97) (.t 98) },
  { dst := some 100, op := .iadr none 1 (.t 94) (.t 96) },
  { dst := none, op := .st 1 (.t 100) (.t 99) }]
def direct_Transposed.r20 : List AI := [
  { dst := some 101, op := .fadr (.t 13) 9 },
  { dst := some 102, op := .ld false 1 (.t 101) },
  { dst := some 103, op := .mov (.t 16) },
  { dst := some 104, op := .build [.nil] [(0, 1, (.t 103))] },
  { dst := some 105, op := .bslice 105 1 [(.t 104)] },
  { dst := some 106, op := .app 106 1 24 (.t 102) (.t 105) },
  { dst := some 107, op := .fadr (.t 13) 9 },
  { dst := none, op := .st 1 (.t 107) (.t 106) }]
def direct_Transposed.r21 : List AI := [
  { dst := some 108, op := .bin .add (.t 47) (.c (.int .i64 (1))) },
  { dst := some 47, op := .mov (.t 108) }]
def direct_Transposed.r22 : List AI := [
  { dst := some 109, op := .ld true 12 (.t 13) },
  { dst := none, op := .st 12 (.t 8) (.t 109) },
  { dst := some 9, op := .mov (.c (.int .i64 (0))) }]
def direct_Transposed.l1 : ACode := (.seq (.ops direct_Transposed.r9 false) (.seq (.cond (.t 48) .skip (.exit 0)) (.seq (.block 1 (.seq (.dr (.ops direct_Transposed.r10 false) [48, 49] []) (.seq (.ops direct_Transposed.r11 false) (.seq (.seq (.dr (.ops direct_Transposed.r12 false) [50, 51, 52] []) (.cond (.t 53) (.dr (.ops direct_Transposed.r13 false) [53, 54, 55, 56, 57, 58, 59, 60, 61, 62] []) .skip)) (.seq (.seq (.dr (.ops direct_Transposed.r14 false) [53, 63, 64, 65, 66, 67, 68, 69] []) (.cond (.t 70) (.dr (.ops direct_Transposed.r15 false) [70, 71, 72, 73, 74, 75, 76, 77, 78, 79, 80] []) .skip)) (.seq (.seq (.dr (.ops direct_Transposed.r16 false) [70, 81, 82] []) (.cond (.t 83) (.dr (.ops direct_Transposed.r17 false) [83, 84, 85, 86, 87, 88, 89, 90] []) .skip)) (.seq (.seq (.dr (.ops direct_Transposed.r18 false) [83, 91] []) (.cond (.t 92) (.dr (.ops direct_Transposed.r19 false) [15, 92, 93, 94, 95, 96, 97, 98, 99, 100] []) .skip)) (.dr (.ops direct_Transposed.r20 false) [15, 16, 92, 101, 102, 103, 104, 105, 106, 107] [])))))))) (.dr (.ops direct_Transposed.r21 false) [108] []))))
def direct_Transposed.c : ACode := (.seq (.dr (.ops direct_Transposed.r0 false) [2, 3, 9] []) (.seq (.seq (.dr (.ops direct_Transposed.r1 false) [17, 18, 19, 20, 21] []) (.seq (.dr (.ops direct_Transposed.r2 false) [22] []) (.cond (.t 23) (.seq (.dr (.ops direct_Transposed.r3 false) [0, 1, 6, 7, 10, 23, 24, 25] []) .ret) .skip))) (.seq (.dr (.ops direct_Transposed.r4 false) [10, 23, 26, 27, 28, 29, 30, 31] []) (.seq (.dr (.ops direct_Transposed.r5 false) [32, 33] []) (.seq (.dr (.ops direct_Transposed.r6 true) [6, 34, 35, 36, 37, 38, 39, 40] []) (.seq (.dr (.ops direct_Transposed.r7 false) [7, 41, 42, 43, 44] []) (.seq (.seq (.dr (.ops direct_Transposed.r8 false) [45] []) (.block 0 (.loop direct_Transposed.l1))) (.seq (.dr (.ops direct_Transposed.r22 false) [0, 1, 11, 12, 13, 14, 46, 47, 48, 109] []) .ret))))))))
def direct_Transposed : AFn := ⟨4, direct_Transposed.c, [.cell 8 true 12, .tmp 9]⟩

/-! direct_FIR -/
def direct_FIR.r0 : List AI := [
  { dst := some 4, op := .box 4 (.t 1) },
  { dst := some 5, op := .box 5 (.t 2) },
  { dst := some 6, op := .alloc 6 [(.int .i64 (0)), (.int .i64 (0)), (.int .i64 (0)), (.int .i64 (0)), (.int .i64 (0)), (.int .i64 (0)), (.int .i64 (0)), (.int .i64 (0)), (.int .i64 (0)), .nil, .nil, (.int .i64 (0))] },
  { dst := some 7, op := .mov (.c (.int .i64 (0))) }]
def direct_FIR.r1 : List AI := [
  { dst := some 8, op := .mov (.t 0) },
  { dst := some 9, op := .ld true 4 (.t 4) },
  { dst := some 10, op := .ld true 4 (.t 5) },
  { dst := some 11, op := .call 50 [(.t 8), (.c .nil), (.t 9), (.t 10)] },
  { dst := some 12, op := .ext (.t 11) 0 },
  { dst := some 13, op := .ext (.t 11) 1 },
  { dst := none, op := .st 12 (.t 6) (.t 12) },
  { dst := some 7, op := .mov (.t 13) }]
def direct_FIR.c : ACode := (.seq (.dr (.ops direct_FIR.r0 false) [1, 2, 7] []) (.seq (.dr (.ops direct_FIR.r1 false) [0, 4, 5, 8, 9, 10, 11, 12, 13] []) .ret))
def direct_FIR : AFn := ⟨3, direct_FIR.c, [.cell 6 true 12, .tmp 7]⟩

/-! law23_known -/
def law23_known.r0 : List AI := [
  { dst := some 0, op := .mov (.c (.bool false)) }]
def law23_known.r1 : List AI := [
  { dst := some 9, op := .build [(.int .i64 (0)), (.int .i64 (0)), (.int .i64 (0)), (.int .i64 (0))] [(0, 1, (.c (.int .i64 (8)))), (1, 1, (.c (.int .i64 (0)))), (2, 1, (.c (.int .i64 (1)))), (3, 1, (.c (.int .i64 (1))))] },
  { dst := some 1, op := .alloc 1 [(.int .i64 (0)), (.int .i64 (0)), (.int .i64 (0)), (.int .i64 (0))] },
  { dst := none, op := .st 4 (.t 1) (.t 9) }]
def law23_known.r2 : List AI := [
  { dst := some 10, op := .build [(.int .i64 (0)), (.int .i64 (0)), (.int .i64 (0)), (.int .i64 (0))] [(0, 1, (.c (.int .i64 (8)))), (1, 1, (.c (.int .i64 (4)))), (2, 1, (.c (.int .i64 (1)))), (3, 1, (.c (.int .i64 (1))))] },
  { dst := some 2, op := .alloc 2 [(.int .i64 (0)), (.int .i64 (0)), (.int .i64 (0)), (.int .i64 (0))] },
  { dst := none, op := .st 4 (.t 2) (.t 10) }]
def law23_known.r3 : List AI := [
  { dst := some 12, op := .bslice 12 1 [(.c (.int .i64 (8)))] },
  { dst := some 13, op := .bslice 13 1 [(.c (.int .i64 (-4)))] },
  { dst := some 14, op := .ld true 4 (.t 1) },
  { dst := some 15, op := .ld true 4 (.t 2) },
  { dst := some 16, op := .call 50 [(.t 12), (.t 13), (.t 14), (.t 15)] },
  { dst := some 11, op := .mov (.t 16) },
  { dst := some 17, op := .ext (.t 11) 0 },
  { dst := some 18, op := .ext (.t 11) 1 },
  { dst := some 3, op := .alloc 3 [(.int .i64 (0)), (.int .i64 (0)), (.int .i64 (0)), (.int .i64 (0)), (.int .i64 (0)), (.int .i64 (0)), (.int .i64 (0)), (.int .i64 (0)), (.int .i64 (0)), .nil, .nil, (.int .i64 (0))] },
  { dst := none, op := .st 12 (.t 3) (.t 17) },
  { dst := some 4, op := .mov (.t 18) }]
def law23_known.r4 : List AI := [
  { dst := some 20, op := .ld true 12 (.t 3) },
  { dst := some 21, op := .bslice 21 1 [(.c (.int .i64 (0)))] },
  { dst := some 22, op := .bslice 22 1 [(.c (.int .i64 (16))), (.c (.int .i64 (0))), (.c (.int .i64 (0)))] },
  { dst := some 23, op := .call 43 [(.t 20), (.t 21), (.t 22)] },
  { dst := some 19, op := .mov (.t 23) },
  { dst := some 24, op := .ext (.t 19) 0 },
  { dst := some 25, op := .ext (.t 19) 1 },
  { dst := some 26, op := .ext (.t 19) 2 },
  { dst := some 27, op := .ext (.t 19) 3 },
  { dst := some 5, op := .mov (.t 24) },
  { dst := some 6, op := .mov (.t 25) },
  { dst := some 7, op := .mov (.t 26) },
  { dst := some 8, op := .mov (.t 27) }]
def law23_known.r5 : List AI := [
  { dst := some 28, op := .mov (.t 4) },
  { dst := some 29, op := .bin .eql (.t 28) (.c (.int .i64 (0))) },
  { dst := some 30, op := .mov (.t 29) },
  { dst := some 31, op := .mov (.t 8), guard := some (30, true) },
  { dst := some 32, op := .bin .eql (.t 31) (.c (.int .i64 (0))), guard := some (30, true) },
  { dst := some 33, op := .pick (.t 30) (.t 32) (.c (.bool false)) },
  { dst := some 34, op := .mov (.t 33) },
  { dst := some 35, op := .mov (.t 5), guard := some (34, true) },
  { dst := some 36, op := .bslice 36 1 [(.c (.int .i64 (8))), (.c (.int .i64 (2))), (.c (.int .i64 (0)))], guard := some (34, true) },
  { dst := some 37, op := .call 20 [(.t 35), (.t 36)], guard := some (34, true) },
  { dst := some 38, op := .pick (.t 34) (.t 37) (.c (.bool false)) },
  { dst := some 0, op := .mov (.t 38) }]
def law23_known.c : ACode := (.seq (.dr (.ops law23_known.r0 false) [0] []) (.seq (.dr (.ops law23_known.r1 false) [9] []) (.seq (.dr (.ops law23_known.r2 false) [10] []) (.seq (.dr (.ops law23_known.r3 false) [1, 2, 11, 12, 13, 14, 15, 16, 17, 18] []) (.seq (.dr (.ops law23_known.r4 false) [3, 6, 7, 19, 20, 21, 22, 23, 24, 25, 26, 27] []) (.seq (.dr (.ops law23_known.r5 false) [4, 5, 8, 28, 29, 30, 31, 32, 33, 34, 35, 36, 37, 38] []) .ret))))))
def law23_known : AFn := ⟨0, law23_known.c, [.tmp 0]⟩

/-- a library has these functions -/
structure DirectGLib (L : Lib) : Prop extends RunGLib L where
  direct_wrong : L 46 = some F.direct_wrong
  direct_row : L 47 = some F.direct_row
  direct_join : L 48 = some F.direct_join
  direct_delay : L 49 = some F.direct_delay
  direct_FormOne : L 50 = some F.direct_FormOne
  direct_FormTwo : L 51 = some F.direct_FormTwo
  direct_Transposed : L 52 = some F.direct_Transposed
  direct_FIR : L 53 = some F.direct_FIR
  law23_known : L 54 = some F.law23_known
def DirectGList : List (Nat × AFn) := [(46, F.direct_wrong), (47, F.direct_row), (48, F.direct_join), (49, F.direct_delay), (50, F.direct_FormOne), (51, F.direct_FormTwo), (52, F.direct_Transposed), (53, F.direct_FIR), (54, F.law23_known)]

end Go.Eng.F
