/-
  Functions of the program, as the abstract machine reads them (group Steps). Written by a program (gen.py) off the model's own reading of the translation; the seat's check ties them to it.
-/
import Derived.Test.YtlkfmmfmefobnaaEngCore
import Derived.Test.YtlkfmmfmefobnaaEngNet
set_option linter.unusedSimpArgs false
set_option linter.unusedVariables false
set_option linter.unnecessarySimpa false
namespace Go.Eng.F

/-! law22_NetworkSteps -/
def law22_NetworkSteps.r0 : List AI := [
  { dst := some 3, op := .box 3 (.t 0) },
  { dst := some 6, op := .mov (.c (.bool false)) }]
def law22_NetworkSteps.r1 : List AI := [
  { dst := some 21, op := .ld true 12 (.t 3) },
  { dst := some 22, op := .call 31 [(.t 21)] },
  { dst := some 23, op := .un .not (.t 22) }]
def law22_NetworkSteps.r2 : List AI := [
  { dst := some 24, op := .call 32 [] },
  { dst := some 6, op := .mov (.t 24) }]
def law22_NetworkSteps.r3 : List AI := [
  { dst := some 26, op := .ld true 12 (.t 3) },
  { dst := some 27, op := .mov (.t 1) },
  { dst := some 28, op := .mov (.t 2) },
  { dst := some 29, op := .call 24 [(.t 26), (.t 27), (.t 28)] },
  { dst := some 25, op := .mov (.t 29) },
  { dst := some 30, op := .ext (.t 25) 0 },
  { dst := some 31, op := .ext (.t 25) 1 },
  { dst := some 32, op := .ext (.t 25) 2 },
  { dst := some 7, op := .mov (.t 30) },
  { dst := some 8, op := .mov (.t 31) },
  { dst := some 9, op := .mov (.t 32) }]
def law22_NetworkSteps.r4 : List AI := [
  { dst := some 34, op := .ld true 12 (.t 3) },
  { dst := some 35, op := .mov (.t 1) },
  { dst := some 36, op := .mov (.t 2) },
  { dst := some 37, op := .call 29 [(.t 34), (.t 35), (.t 36)] },
  { dst := some 33, op := .mov (.t 37) },
  { dst := some 38, op := .ext (.t 33) 0 },
  { dst := some 39, op := .ext (.t 33) 1 },
  { dst := some 40, op := .ext (.t 33) 2 },
  { dst := some 10, op := .mov (.t 38) },
  { dst := some 11, op := .mov (.t 39) },
  { dst := some 12, op := .mov (.t 40) }]
def law22_NetworkSteps.r5 : List AI := [
  { dst := some 42, op := .ld true 12 (.t 3) },
  { dst := some 43, op := .mov (.t 1) },
  { dst := some 44, op := .mov (.t 2) },
  { dst := some 45, op := .call 26 [(.t 42), (.t 43), (.t 44)] },
  { dst := some 41, op := .mov (.t 45) },
  { dst := some 46, op := .ext (.t 41) 0 },
  { dst := some 47, op := .ext (.t 41) 1 },
  { dst := some 48, op := .ext (.t 41) 2 },
  { dst := some 49, op := .ext (.t 41) 3 },
  { dst := some 13, op := .mov (.t 46) },
  { dst := some 14, op := .mov (.t 47) },
  { dst := some 15, op := .mov (.t 48) },
  { dst := some 16, op := .mov (.t 49) }]
def law22_NetworkSteps.r6 : List AI := [
  { dst := some 51, op := .ld true 12 (.t 3) },
  { dst := some 52, op := .mov (.t 1) },
  { dst := some 53, op := .mov (.t 2) },
  { dst := some 54, op := .call 30 [(.t 51), (.t 52), (.t 53)] },
  { dst := some 50, op := .mov (.t 54) },
  { dst := some 55, op := .ext (.t 50) 0 },
  { dst := some 56, op := .ext (.t 50) 1 },
  { dst := some 57, op := .ext (.t 50) 2 },
  { dst := some 58, op := .ext (.t 50) 3 },
  { dst := some 17, op := .mov (.t 55) },
  { dst := some 18, op := .mov (.t 56) },
  { dst := some 19, op := .mov (.t 57) },
  { dst := some 20, op := .mov (.t 58) }]
def law22_NetworkSteps.r7 : List AI := [
  { dst := some 59, op := .call 32 [] },
  { dst := some 60, op := .mov (.t 59) },
  { dst := some 61, op := .ld true 12 (.t 3), guard := some (60, true) },
  { dst := some 62, op := .call 21 [(.t 61)], guard := some (60, true) },
  { dst := some 63, op := .ld true 12 (.t 3), guard := some (60, true) },
  { dst := some 64, op := .call 27 [(.t 63)], guard := some (60, true) },
  { dst := some 65, op := .beq false (.t 62) (.t 64), guard := some (60, true) },
  { dst := some 66, op := .pick (.t 60) (.t 65) (.c (.bool false)) },
  { dst := some 67, op := .mov (.t 66) },
  { dst := some 68, op := .mov (.t 7), guard := some (67, true) },
  { dst := some 69, op := .mov (.t 10), guard := some (67, true) },
  { dst := some 70, op := .call 20 [(.t 68), (.t 69)], guard := some (67, true) },
  { dst := some 71, op := .pick (.t 67) (.t 70) (.c (.bool false)) },
  { dst := some 72, op := .mov (.t 71) },
  { dst := some 73, op := .mov (.t 8), guard := some (72, true) },
  { dst := some 74, op := .mov (.t 11), guard := some (72, true) },
  { dst := some 75, op := .beq false (.t 73) (.t 74), guard := some (72, true) },
  { dst := some 76, op := .pick (.t 72) (.t 75) (.c (.bool false)) },
  { dst := some 77, op := .mov (.t 76) },
  { dst := some 78, op := .mov (.t 9), guard := some (77, true) },
  { dst := some 79, op := .mov (.t 12), guard := some (77, true) },
  { dst := some 80, op := .bin .eql (.t 78) (.t 79), guard := some (77, true) },
  { dst := some 81, op := .pick (.t 77) (.t 80) (.c (.bool false)) },
  { dst := some 82, op := .mov (.t 81) },
  { dst := some 83, op := .mov (.t 13), guard := some (82, true) },
  { dst := some 84, op := .mov (.t 17), guard := some (82, true) },
  { dst := some 85, op := .call 20 [(.t 83), (.t 84)], guard := some (82, true) },
  { dst := some 86, op := .pick (.t 82) (.t 85) (.c (.bool false)) },
  { dst := some 87, op := .mov (.t 86) },
  { dst := some 88, op := .mov (.t 14), guard := some (87, true) },
  { dst := some 89, op := .mov (.t 18), guard := some (87, true) },
  { dst := some 90, op := .bin .eql (.t 88) (.t 89), guard := some (87, true) },
  { dst := some 91, op := .pick (.t 87) (.t 90) (.c (.bool false)) },
  { dst := some 92, op := .mov (.t 91) },
  { dst := some 93, op := .mov (.t 15), guard := some (92, true) },
  { dst := some 94, op := .mov (.t 19), guard := some (92, true) },
  { dst := some 95, op := .beq false (.t 93) (.t 94), guard := some (92, true) },
  { dst := some 96, op := .pick (.t 92) (.t 95) (.c (.bool false)) },
  { dst := some 97, op := .mov (.t 96) },
  { dst := some 98, op := .mov (.t 16), guard := some (97, true) },
  { dst := some 99, op := .mov (.t 20), guard := some (97, true) },
  { dst := some 100, op := .bin .eql (.t 98) (.t 99), guard := some (97, true) },
  { dst := some 101, op := .pick (.t 97) (.t 100) (.c (.bool false)) },
  { dst := some 6, op := .mov (.t 101) }]
def law22_NetworkSteps.c : ACode := (.seq (.dr (.ops law22_NetworkSteps.r0 false) [0, 6] []) (.seq (.seq (.dr (.ops law22_NetworkSteps.r1 false) [21, 22] []) (.cond (.t 23) (.seq (.dr (.ops law22_NetworkSteps.r2 false) [1, 2, 3, 23, 24] []) .ret) .skip)) (.seq (.dr (.ops law22_NetworkSteps.r3 false) [23, 25, 26, 27, 28, 29, 30, 31, 32] []) (.seq (.dr (.ops law22_NetworkSteps.r4 false) [33, 34, 35, 36, 37, 38, 39, 40] []) (.seq (.dr (.ops law22_NetworkSteps.r5 false) [41, 42, 43, 44, 45, 46, 47, 48, 49] []) (.seq (.dr (.ops law22_NetworkSteps.r6 false) [1, 2, 50, 51, 52, 53, 54, 55, 56, 57, 58] []) (.seq (.dr (.ops law22_NetworkSteps.r7 true) [3, 7, 8, 9, 10, 11, 12, 13, 14, 15, 16, 17, 18, 19, 20, 59, 60, 61, 62, 63, 64, 65, 66, 67, 68, 69, 70, 71, 72, 73, 74, 75, 76, 77, 78, 79, 80, 81, 82, 83, 84, 85, 86, 87, 88, 89, 90, 91, 92, 93, 94, 95, 96, 97, 98, 99, 100, 101] []) .ret)))))))
def law22_NetworkSteps : AFn := ⟨3, law22_NetworkSteps.c, [.tmp 6]⟩

/-- a library has these functions -/
structure StepsLib (L : Lib) : Prop extends NetLib L where
  law22_NetworkSteps : L 33 = some F.law22_NetworkSteps
def StepsList : List (Nat × AFn) := [(33, F.law22_NetworkSteps)]

end Go.Eng.F
