/-
  Functions of the program, as the abstract machine reads them (group World). Written by a program (gen.py) off the model's own reading of the translation; the seat's check ties them to it.
-/
import Derived.Test.YtlkfmmfmefobnaaEngCore
import Derived.Test.YtlkfmmfmefobnaaEngFixed
set_option linter.unusedSimpArgs false
set_option linter.unusedVariables false
set_option linter.unnecessarySimpa false
namespace Go.Eng.F

/-! world_Within -/
def world_Within.r0 : List AI := [
  { dst := some 4, op := .mov (.c (.int .i64 (0))) }]
def world_Within.r1 : List AI := [
  { dst := some 5, op := .mov (.t 1) },
  { dst := some 6, op := .bin .lss (.t 5) (.c (.int .i64 (1))) }]
def world_Within.r2 : List AI := [
  { dst := some 4, op := .mov (.c (.int .i64 (0))) }]
def world_Within.r3 : List AI := [
  { dst := some 7, op := .mov (.t 0) },
  { dst := some 8, op := .mov (.t 1) },
  { dst := some 9, op := .bin .rem (.t 7) (.t 8) },
  { dst := some 0, op := .mov (.t 9) }]
def world_Within.r4 : List AI := [
  { dst := some 10, op := .mov (.t 0) },
  { dst := some 11, op := .bin .lss (.t 10) (.c (.int .i64 (0))) }]
def world_Within.r5 : List AI := [
  { dst := some 12, op := .mov (.t 0) },
  { dst := some 13, op := .mov (.t 1) },
  { dst := some 14, op := .bin .add (.t 12) (.t 13) },
  { dst := some 0, op := .mov (.t 14) }]
def world_Within.r6 : List AI := [
  { dst := some 15, op := .mov (.t 0) },
  { dst := some 4, op := .mov (.t 15) }]
def world_Within.c : ACode := (.seq (.dr (.ops world_Within.r0 false) [4] []) (.seq (.seq (.dr (.ops world_Within.r1 false) [5] []) (.cond (.t 6) (.seq (.dr (.ops world_Within.r2 false) [0, 1, 6] []) .ret) .skip)) (.seq (.dr (.ops world_Within.r3 false) [6, 7, 8, 9] []) (.seq (.seq (.dr (.ops world_Within.r4 false) [10] []) (.cond (.t 11) (.dr (.ops world_Within.r5 false) [1, 11, 12, 13, 14] []) .skip)) (.seq (.dr (.ops world_Within.r6 false) [0, 1, 11, 15] []) .ret)))))
def world_Within : AFn := ⟨2, world_Within.c, [.tmp 4]⟩

/-! world_At -/
def world_At.r0 : List AI := [
  { dst := some 4, op := .mov (.c (.int .i64 (0))) }]
def world_At.r1 : List AI := [
  { dst := some 5, op := .mov (.t 1) },
  { dst := some 6, op := .bin .geq (.t 5) (.c (.int .i64 (0))) },
  { dst := some 7, op := .mov (.t 6) },
  { dst := some 8, op := .mov (.t 1), guard := some (7, true) },
  { dst := some 9, op := .mov (.t 0), guard := some (7, true) },
  { dst := some 10, op := .len (.t 9), guard := some (7, true) },
  { dst := some 11, op := .bin .lss (.t 8) (.t 10), guard := some (7, true) },
  { dst := some 12, op := .pick (.t 7) (.t 11) (.c (.bool false)) }]
def world_At.r2 : List AI := [
  { dst := some 13, op := .mov (.t 0) },
  { dst := some 14, op := .mov (.t 1) },
  { dst := some 15, op := .iadr none 1 (.t 13) (.t 14) },
  { dst := some 16, op := .ld false 1 (.t 15) },
  { dst := some 4, op := .mov (.t 16) }]
def world_At.r3 : List AI := [
  { dst := some 4, op := .mov (.c (.int .i64 (0))) }]
def world_At.c : ACode := (.seq (.dr (.ops world_At.r0 false) [4] []) (.seq (.seq (.dr (.ops world_At.r1 false) [5, 6, 7, 8, 9, 10, 11] []) (.cond (.t 12) (.seq (.dr (.ops world_At.r2 false) [0, 1, 12, 13, 14, 15, 16] []) .ret) .skip)) (.seq (.dr (.ops world_At.r3 false) [0, 1, 12] []) .ret)))
def world_At : AFn := ⟨2, world_At.c, [.tmp 4]⟩

/-! world_Word -/
def world_Word.r0 : List AI := [
  { dst := some 8, op := .alloc 8 [(.int .i64 (0)), (.int .i64 (0)), (.int .i64 (0)), (.int .i64 (0))] }]
def world_Word.r1 : List AI := [
  { dst := some 10, op := .mov (.t 0) },
  { dst := some 11, op := .call 34 [(.t 10), (.c (.int .i64 (1099511627776)))] },
  { dst := some 0, op := .mov (.t 11) }]
def world_Word.r2 : List AI := [
  { dst := some 12, op := .mov (.t 1) },
  { dst := some 13, op := .mov (.t 0) },
  { dst := some 14, op := .mov (.t 2) },
  { dst := some 15, op := .mov (.t 1) },
  { dst := some 16, op := .bin .sub (.t 14) (.t 15) },
  { dst := some 17, op := .bin .add (.t 16) (.c (.int .i64 (1))) },
  { dst := some 18, op := .bin .rem (.t 13) (.t 17) },
  { dst := some 19, op := .bin .add (.t 12) (.t 18) },
  { dst := some 20, op := .build [(.int .i64 (0)), (.int .i64 (0)), (.int .i64 (0)), (.int .i64 (0))] [(0, 1, (.t 19))] },
  { dst := some 9, op := .alloc 9 [(.int .i64 (0)), (.int .i64 (0)), (.int .i64 (0)), (.int .i64 (0))] },
  { dst := none, op := .st 4 (.t 9) (.t 20) }]
def world_Word.r3 : List AI := [
  { dst := some 21, op := .mov (.t 0) },
  { dst := some 22, op := .mov (.t 2) },
  { dst := some 23, op := .mov (.t 1) },
  { dst := some 24, op := .bin .sub (.t 22) (.t 23) },
  { dst := some 25, op := .bin .add (.t 24) (.c (.int .i64 (1))) },
  { dst := some 26, op := .bin .quo (.t 21) (.t 25) },
  { dst := some 0, op := .mov (.t 26) }]
def world_Word.r4 : List AI := [
  { dst := some 27, op := .fadr (.t 9) 0 },
  { dst := some 28, op := .ld false 1 (.t 27) },
  { dst := some 29, op := .bin .sub (.t 28) (.c (.int .i64 (1))) },
  { dst := some 30, op := .mov (.t 3) },
  { dst := some 31, op := .bin .sub (.t 29) (.t 30) },
  { dst := some 32, op := .mov (.t 0) },
  { dst := some 33, op := .bin .rem (.t 32) (.c (.int .i64 (2))) },
  { dst := some 34, op := .bin .sub (.t 31) (.t 33) },
  { dst := some 35, op := .fadr (.t 9) 1 },
  { dst := none, op := .st 1 (.t 35) (.t 34) }]
def world_Word.r5 : List AI := [
  { dst := some 36, op := .mov (.t 0) },
  { dst := some 37, op := .bin .quo (.t 36) (.c (.int .i64 (2))) },
  { dst := some 0, op := .mov (.t 37) }]
def world_Word.r6 : List AI := [
  { dst := some 38, op := .fadr (.t 9) 1 },
  { dst := some 39, op := .ld false 1 (.t 38) },
  { dst := some 40, op := .mm true [(.t 39), (.c (.int .i64 (0)))] },
  { dst := some 41, op := .fadr (.t 9) 1 },
  { dst := none, op := .st 1 (.t 41) (.t 40) }]
def world_Word.r7 : List AI := [
  { dst := some 42, op := .mov (.t 0) },
  { dst := some 43, op := .bin .rem (.t 42) (.c (.int .i64 (3))) },
  { dst := some 44, op := .bin .add (.c (.int .i64 (1))) (.t 43) },
  { dst := some 45, op := .mov (.t 0) },
  { dst := some 46, op := .bin .quo (.t 45) (.c (.int .i64 (3))) },
  { dst := some 47, op := .bin .rem (.t 46) (.c (.int .i64 (2))) },
  { dst := some 48, op := .bin .add (.c (.int .i64 (1))) (.t 47) },
  { dst := some 49, op := .fadr (.t 9) 2 },
  { dst := none, op := .st 1 (.t 49) (.t 44) },
  { dst := some 50, op := .fadr (.t 9) 3 },
  { dst := none, op := .st 1 (.t 50) (.t 48) }]
def world_Word.r8 : List AI := [
  { dst := some 51, op := .ld true 4 (.t 9) },
  { dst := none, op := .st 4 (.t 8) (.t 51) }]
def world_Word.c : ACode := (.seq (.ops world_Word.r0 false) (.seq (.dr (.ops world_Word.r1 false) [10, 11] []) (.seq (.dr (.ops world_Word.r2 false) [12, 13, 14, 15, 16, 17, 18, 19, 20] []) (.seq (.dr (.ops world_Word.r3 false) [1, 2, 21, 22, 23, 24, 25, 26] []) (.seq (.dr (.ops world_Word.r4 false) [3, 27, 28, 29, 30, 31, 32, 33, 34, 35] []) (.seq (.dr (.ops world_Word.r5 false) [36, 37] []) (.seq (.dr (.ops world_Word.r6 false) [38, 39, 40, 41] []) (.seq (.dr (.ops world_Word.r7 false) [0, 42, 43, 44, 45, 46, 47, 48, 49, 50] []) (.seq (.dr (.ops world_Word.r8 false) [9, 51] []) .ret)))))))))
def world_Word : AFn := ⟨4, world_Word.c, [.cell 8 true 4]⟩

/-! world_Data -/
def world_Data.r0 : List AI := [
  { dst := some 2, op := .alloc 2 [(.int .i64 (0)), (.int .i64 (0)), (.int .i64 (0)), (.int .i64 (0))] }]
def world_Data.r1 : List AI := [
  { dst := some 3, op := .mov (.t 0) },
  { dst := some 4, op := .call 36 [(.t 3), (.c (.int .i64 (6))), (.c (.int .i64 (12))), (.c (.int .i64 (2)))] },
  { dst := none, op := .st 4 (.t 2) (.t 4) }]
def world_Data.c : ACode := (.seq (.ops world_Data.r0 false) (.seq (.dr (.ops world_Data.r1 false) [0, 3, 4] []) .ret))
def world_Data : AFn := ⟨1, world_Data.c, [.cell 2 true 4]⟩

/-! world_Coef -/
def world_Coef.r0 : List AI := [
  { dst := some 2, op := .alloc 2 [(.int .i64 (0)), (.int .i64 (0)), (.int .i64 (0)), (.int .i64 (0))] }]
def world_Coef.r1 : List AI := [
  { dst := some 3, op := .mov (.t 0) },
  { dst := some 4, op := .call 36 [(.t 3), (.c (.int .i64 (6))), (.c (.int .i64 (9))), (.c (.int .i64 (1)))] },
  { dst := none, op := .st 4 (.t 2) (.t 4) }]
def world_Coef.c : ACode := (.seq (.ops world_Coef.r0 false) (.seq (.dr (.ops world_Coef.r1 false) [0, 3, 4] []) .ret))
def world_Coef : AFn := ⟨1, world_Coef.c, [.cell 2 true 4]⟩

/-! world_Words -/
def world_Words.r0 : List AI := [
  { dst := some 3, op := .box 3 (.t 0) },
  { dst := some 6, op := .mov (.c .nil) }]
def world_Words.r1 : List AI := [
  { dst := some 7, op := .vrow 7 1 }]
def world_Words.r2 : List AI := [
  { dst := some 8, op := .mov (.c (.int .i64 (0))) }]
def world_Words.r3 : List AI := [
  { dst := some 9, op := .mov (.t 8) },
  { dst := some 10, op := .mov (.t 2) },
  { dst := some 11, op := .bin .lss (.t 9) (.t 10) }]
def world_Words.r5 : List AI := [
  { dst := some 14, op := .mov (.t 7) },
  { dst := some 15, op := .ld true 4 (.t 3) },
  { dst := some 16, op := .call 12 [(.t 15)] },
  { dst := some 17, op := .mov (.t 1) },
  { dst := some 18, op := .mov (.t 8) },
  { dst := some 19, op := .call 35 [(.t 17), (.t 18)] },
  { dst := some 20, op := .ld true 4 (.t 3) },
  { dst := some 21, op := .call 12 [(.t 20)] },
  { dst := some 22, op := .bin .sub (.t 19) (.t 21) },
  { dst := some 23, op := .ld true 4 (.t 3) },
  { dst := some 24, op := .call 13 [(.t 23)] },
  { dst := some 25, op := .ld true 4 (.t 3) },
  { dst := some 26, op := .call 12 [(.t 25)] },
  { dst := some 27, op := .bin .sub (.t 24) (.t 26) },
  { dst := some 28, op := .bin .add (.t 27) (.c (.int .i64 (1))) },
  { dst := some 29, op := .call 34 [(.t 22), (.t 28)] },
  { dst := some 30, op := .bin .add (.t 16) (.t 29) },
  { dst := some 31, op := .bslice 31 1 [(.t 30)] },
  { dst := some 32, op := .app 32 1 8 (.t 14) (.t 31) },
  { dst := some 7, op := .mov (.t 32) }]
def world_Words.r4 : List AI := [
  { dst := some 12, op := .mov (.t 8) },
  { dst := some 13, op := .bin .add (.t 12) (.c (.int .i64 (1))) },
  { dst := some 8, op := .mov (.t 13) }]
def world_Words.r6 : List AI := [
  { dst := some 33, op := .mov (.t 7) },
  { dst := some 6, op := .mov (.t 33) }]
def world_Words.l1 : ACode := (.seq (.seq (.dr (.ops world_Words.r3 false) [9, 10] []) (.cond (.t 11) .skip (.exit 0))) (.seq (.block 1 (.dr (.ops world_Words.r5 true) [11, 14, 15, 16, 17, 18, 19, 20, 21, 22, 23, 24, 25, 26, 27, 28, 29, 30, 31, 32] [])) (.dr (.ops world_Words.r4 false) [12, 13] [])))
def world_Words.c : ACode := (.seq (.dr (.ops world_Words.r0 false) [0, 6] []) (.seq (.ops world_Words.r1 false) (.seq (.seq (.ops world_Words.r2 false) (.block 0 (.loop world_Words.l1))) (.seq (.dr (.ops world_Words.r6 false) [1, 2, 3, 7, 8, 11, 33] []) .ret))))
def world_Words : AFn := ⟨3, world_Words.c, [.tmp 6]⟩

/-! world_Below -/
def world_Below.r0 : List AI := [
  { dst := some 6, op := .mov (.c .nil) }]
def world_Below.r1 : List AI := [
  { dst := some 7, op := .vrow 7 1 }]
def world_Below.r2 : List AI := [
  { dst := some 8, op := .mov (.c (.int .i64 (0))) }]
def world_Below.r3 : List AI := [
  { dst := some 9, op := .mov (.t 8) },
  { dst := some 10, op := .mov (.t 2) },
  { dst := some 11, op := .bin .lss (.t 9) (.t 10) }]
def world_Below.r5 : List AI := [
  { dst := some 14, op := .mov (.t 7) },
  { dst := some 15, op := .mov (.t 1) },
  { dst := some 16, op := .mov (.t 8) },
  { dst := some 17, op := .call 35 [(.t 15), (.t 16)] },
  { dst := some 18, op := .mov (.t 0) },
  { dst := some 19, op := .bin .add (.t 17) (.t 18) },
  { dst := some 20, op := .mov (.t 0) },
  { dst := some 21, op := .bin .mul (.c (.int .i64 (2))) (.t 20) },
  { dst := some 22, op := .bin .add (.t 21) (.c (.int .i64 (1))) },
  { dst := some 23, op := .call 34 [(.t 19), (.t 22)] },
  { dst := some 24, op := .mov (.t 0) },
  { dst := some 25, op := .bin .sub (.t 23) (.t 24) },
  { dst := some 26, op := .bslice 26 1 [(.t 25)] },
  { dst := some 27, op := .app 27 1 8 (.t 14) (.t 26) },
  { dst := some 7, op := .mov (.t 27) }]
def world_Below.r4 : List AI := [
  { dst := some 12, op := .mov (.t 8) },
  { dst := some 13, op := .bin .add (.t 12) (.c (.int .i64 (1))) },
  { dst := some 8, op := .mov (.t 13) }]
def world_Below.r6 : List AI := [
  { dst := some 28, op := .mov (.t 7) },
  { dst := some 6, op := .mov (.t 28) }]
def world_Below.l1 : ACode := (.seq (.seq (.dr (.ops world_Below.r3 false) [9, 10] []) (.cond (.t 11) .skip (.exit 0))) (.seq (.block 1 (.dr (.ops world_Below.r5 false) [11, 14, 15, 16, 17, 18, 19, 20, 21, 22, 23, 24, 25, 26, 27] [])) (.dr (.ops world_Below.r4 false) [12, 13] [])))
def world_Below.c : ACode := (.seq (.dr (.ops world_Below.r0 false) [6] []) (.seq (.ops world_Below.r1 false) (.seq (.seq (.ops world_Below.r2 false) (.block 0 (.loop world_Below.l1))) (.seq (.dr (.ops world_Below.r6 false) [0, 1, 2, 7, 8, 11, 28] []) .ret))))
def world_Below : AFn := ⟨3, world_Below.c, [.tmp 6]⟩

/-! world_Unit -/
def world_Unit.r0 : List AI := [
  { dst := some 1, op := .box 1 (.t 0) },
  { dst := some 2, op := .mov (.c (.int .i64 (0))) }]
def world_Unit.r1 : List AI := [
  { dst := some 3, op := .fadr (.t 1) 1 },
  { dst := some 4, op := .ld false 1 (.t 3) },
  { dst := some 5, op := .conv .u64 (.t 4) },
  { dst := some 6, op := .bin .shl (.c (.int .i64 (1))) (.t 5) },
  { dst := some 2, op := .mov (.t 6) }]
def world_Unit.c : ACode := (.seq (.dr (.ops world_Unit.r0 false) [0, 2] []) (.seq (.dr (.ops world_Unit.r1 false) [1, 3, 4, 5, 6] []) .ret))
def world_Unit : AFn := ⟨1, world_Unit.c, [.tmp 2]⟩

/-- a library has these functions -/
structure WorldLib (L : Lib) : Prop extends FixedLib L where
  world_Within : L 34 = some F.world_Within
  world_At : L 35 = some F.world_At
  world_Word : L 36 = some F.world_Word
  world_Data : L 37 = some F.world_Data
  world_Coef : L 38 = some F.world_Coef
  world_Words : L 39 = some F.world_Words
  world_Below : L 40 = some F.world_Below
  world_Unit : L 41 = some F.world_Unit
def WorldList : List (Nat × AFn) := [(34, F.world_Within), (35, F.world_At), (36, F.world_Word), (37, F.world_Data), (38, F.world_Coef), (39, F.world_Words), (40, F.world_Below), (41, F.world_Unit)]

end Go.Eng.F
