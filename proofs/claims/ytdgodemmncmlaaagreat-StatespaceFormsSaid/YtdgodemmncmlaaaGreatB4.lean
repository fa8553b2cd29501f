/-
  Functions of the program, as the abstract machine reads them (group RefG). Written by a program (gen.py) off the model's own reading of the translation; the seat's check ties them to it.
-/
import Derived.Test.YtdgodemmncmlaaaGreatB1
import Derived.Test.YtdgodemmncmlaaaGreatB3
set_option linter.unusedSimpArgs false
set_option linter.unusedVariables false
set_option linter.unnecessarySimpa false
namespace Go.Eng.F
open C
namespace ref01_Trim
def r0:List AI:=[o 2 (.mov (.c .nil))]
def r1:List AI:=[m 4 0,o 5 (.len 4),m 3 5]
def r2:List AI:=[m 6 3,o 7 (.bin .gtr 6 (k 0)),m 8 7,g 9 8 true (.mov 0),g 10 8 true (.mov 3),g 11 8 true (.bin .sub 10 (k 1)),g 12 8 true (.iadr none 1 9 11),
 g 13 8 true (.ld false 1 12),g 14 8 true (.bin .eql 13 (.c (.int .u32 (0)))),o 15 (.pick 8 14 (.c (.bool false)))]
def r3:List AI:=[m 16 3,o 17 (.bin .sub 16 (k 1)),m 3 17]
def r4:List AI:=[m 18 0,m 19 3,o 20 (.slc 1 18 none (some 19)),o 21 (.app 101021 1 4 (.c .nil) 20),m 2 21]
def l1:ACode:=(.seq (.seq (.dr (.ops r2 false) [6,7,8,9,10,11,12,13,14] []) (.cond 15 .skip (.exit 0))) (.block 1 (.dr (.ops r3 false) [15,16,17] [])))
def c:ACode:=(.seq (.dr (.ops r0 false) [2] []) (.seq (.dr (.ops r1 false) [4,5] []) (.seq (.block 0 (.loop l1)) (.seq (.dr (.ops r4 false) [0,3,15,18,19,20,21] []) .ret))))
end ref01_Trim
def ref01_Trim:AFn:=⟨1,ref01_Trim.c,[.tmp 2],false⟩
namespace ref01_Compare
def r0:List AI:=[o 4 (.mov (k 0))]
def r1:List AI:=[m 6 0,o 7 (.call 101 [6]),m 8 1,o 9 (.call 101 [8]),m 0 7,m 1 9]
def r2:List AI:=[m 10 0,o 11 (.len 10),m 12 1,o 13 (.len 12),o 14 (.bin .neq 11 13)]
def r3:List AI:=[m 15 0,o 16 (.len 15),m 17 1,o 18 (.len 17),o 19 (.bin .lss 16 18)]
def r4:List AI:=[o 4 (.mov (k (-1)))]
def r5:List AI:=[o 4 (.mov (k 1))]
def r6:List AI:=[m 20 0,o 21 (.len 20),o 22 (.bin .sub 21 (k 1)),m 5 22]
def r7:List AI:=[m 23 5,o 24 (.bin .geq 23 (k 0))]
def r9:List AI:=[m 27 0,m 28 5,o 29 (.iadr none 1 27 28),o 30 (.ld false 1 29),m 31 1,m 32 5,o 33 (.iadr none 1 31 32),o 34 (.ld false 1 33),o 35 (.bin .lss 30 34)]
def r10:List AI:=[o 4 (.mov (k (-1)))]
def r11:List AI:=[m 36 0,m 37 5,o 38 (.iadr none 1 36 37),o 39 (.ld false 1 38),m 40 1,m 41 5,o 42 (.iadr none 1 40 41),o 43 (.ld false 1 42),o 44 (.bin .gtr 39 43)]
def r12:List AI:=[o 4 (.mov (k 1))]
def r8:List AI:=[m 25 5,o 26 (.bin .sub 25 (k 1)),m 5 26]
def r13:List AI:=[o 4 (.mov (k 0))]
def l1:ACode:=(.seq (.seq (.dr (.ops r7 false) [23] []) (.cond 24 .skip (.exit 0))) (.seq (.block 1 (.seq (.seq (.dr (.ops r9 true) [24,27,28,29,30,31,32,33,34] []) (.cond 35 (.seq (.dr (.ops r10 false) [0,1,5,35] []) .ret) .skip)) (.seq (.dr (.ops r11 true) [35,36,37,38,39,40,41,42,43] []) (.cond 44 (.seq (.dr (.ops r12 false) [0,1,5,44] []) .ret) .skip)))) (.dr (.ops r8 false) [25,26,44] [])))
def c:ACode:=(.seq (.dr (.ops r0 false) [4] []) (.seq (.dr (.ops r1 false) [6,7,8,9] []) (.seq (.seq (.dr (.ops r2 false) [10,11,12,13] []) (.cond 14 (.seq (.seq (.dr (.ops r3 false) [0,1,14,15,16,17,18] []) (.cond 19 (.seq (.dr (.ops r4 false) [19] []) .ret) .skip)) (.seq (.dr (.ops r5 false) [19] []) .ret)) .skip)) (.seq (.seq (.dr (.ops r6 false) [14,20,21,22] []) (.block 0 (.loop l1))) (.seq (.dr (.ops r13 false) [0,1,5,24] []) .ret)))))
end ref01_Compare
def ref01_Compare:AFn:=⟨2,ref01_Compare.c,[.tmp 4],false⟩
namespace ref01_Add
def r0:List AI:=[o 4 (.mov (.c .nil))]
def r1:List AI:=[o 5 (.vrow 5 1)]
def r2:List AI:=[o 6 (.mov (.c (.int .u64 (0))))]
def r3:List AI:=[o 7 (.mov (k 0))]
def r4:List AI:=[m 8 7,m 9 0,o 10 (.len 9),o 11 (.bin .lss 8 10),m 12 11,g 13 12 false (.mov 7),g 14 12 false (.mov 1),g 15 12 false (.len 14),
 g 16 12 false (.bin .lss 13 15),o 17 (.pick 12 (.c (.bool true)) 16)]
def r6:List AI:=[m 20 7,m 21 0,o 22 (.len 21),o 23 (.bin .lss 20 22)]
def r7:List AI:=[m 24 6,m 25 0,m 26 7,o 27 (.iadr none 1 25 26),o 28 (.ld false 1 27),o 29 (.conv .u64 28),o 30 (.bin .add 24 29),m 6 30]
def r8:List AI:=[m 31 7,m 32 1,o 33 (.len 32),o 34 (.bin .lss 31 33)]
def r9:List AI:=[m 35 6,m 36 1,m 37 7,o 38 (.iadr none 1 36 37),o 39 (.ld false 1 38),o 40 (.conv .u64 39),o 41 (.bin .add 35 40),m 6 41]
def r10:List AI:=[m 42 5,m 43 6,o 44 (.conv .u32 43),o 45 (.bslice 45 1 [44]),o 46 (.app 46 1 4 42 45),m 5 46]
def r11:List AI:=[m 47 6,o 48 (.bin .shr 47 (.c (.int .u64 (32)))),m 6 48]
def r5:List AI:=[m 18 7,o 19 (.bin .add 18 (k 1)),m 7 19]
def r12:List AI:=[m 49 5,m 50 6,o 51 (.conv .u32 50),o 52 (.bslice 52 1 [51]),o 53 (.app 53 1 4 49 52),o 54 (.call 101 [53]),m 4 54]
def l1:ACode:=(.seq (.seq (.dr (.ops r4 false) [8,9,10,11,12,13,14,15,16] []) (.cond 17 .skip (.exit 0))) (.seq (.block 1 (.seq (.seq (.dr (.ops r6 false) [17,20,21,22] []) (.cond 23 (.dr (.ops r7 false) [23,24,25,26,27,28,29,30] []) .skip)) (.seq (.seq (.dr (.ops r8 false) [23,31,32,33] []) (.cond 34 (.dr (.ops r9 false) [34,35,36,37,38,39,40,41] []) .skip)) (.seq (.dr (.ops r10 false) [34,42,43,44,45,46] []) (.dr (.ops r11 false) [47,48] []))))) (.dr (.ops r5 false) [18,19] [])))
def c:ACode:=(.seq (.dr (.ops r0 false) [4] []) (.seq (.ops r1 false) (.seq (.ops r2 false) (.seq (.seq (.ops r3 false) (.block 0 (.loop l1))) (.seq (.dr (.ops r12 false) [0,1,5,6,7,17,49,50,51,52,53,54] []) .ret)))))
end ref01_Add
def ref01_Add:AFn:=⟨2,ref01_Add.c,[.tmp 4],false⟩
namespace ref01_Sub
def r0:List AI:=[o 4 (.mov (.c .nil))]
def r1:List AI:=[m 10 0,m 11 1,o 12 (.call 102 [10,11]),o 13 (.bin .lss 12 (k 0))]
def r2:List AI:=[o 4 (.mov (.c .nil))]
def r3:List AI:=[m 14 1,o 15 (.call 101 [14]),m 1 15]
def r4:List AI:=[m 16 0,o 17 (.calli 101 [16]),m 5 17]
def r5:List AI:=[o 6 (.mov (.c (.int .u64 (0))))]
def r6:List AI:=[o 7 (.mov (k 0))]
def r7:List AI:=[m 18 7,m 19 5,o 20 (.len 19),o 21 (.bin .lss 18 20)]
def r9:List AI:=[m 24 6,m 8 24]
def r10:List AI:=[m 25 7,m 26 1,o 27 (.len 26),o 28 (.bin .lss 25 27)]
def r11:List AI:=[m 29 8,m 30 1,m 31 7,o 32 (.iadr none 1 30 31),o 33 (.ld false 1 32),o 34 (.conv .u64 33),o 35 (.bin .add 29 34),m 8 35]
def r12:List AI:=[m 36 5,m 37 7,o 38 (.iadr none 1 36 37),o 39 (.ld false 1 38),o 40 (.conv .u64 39),m 9 40]
def r13:List AI:=[o 6 (.mov (.c (.int .u64 (0))))]
def r14:List AI:=[m 41 9,m 42 8,o 43 (.bin .lss 41 42)]
def r15:List AI:=[m 44 9,o 45 (.bin .add 44 (.c (.int .u64 (4294967296)))),m 9 45]
def r16:List AI:=[o 6 (.mov (.c (.int .u64 (1))))]
def r17:List AI:=[m 46 5,m 47 7,m 48 9,m 49 8,o 50 (.bin .sub 48 49),o 51 (.conv .u32 50),o 52 (.iadr none 1 46 47),n (.st 1 52 51)]
def r8:List AI:=[m 22 7,o 23 (.bin .add 22 (k 1)),m 7 23]
def r18:List AI:=[m 53 5,o 54 (.call 101 [53]),m 4 54]
def l1:ACode:=(.seq (.seq (.dr (.ops r7 false) [18,19,20] []) (.cond 21 .skip (.exit 0))) (.seq (.block 1 (.seq (.dr (.ops r9 false) [6,21,24] []) (.seq (.seq (.dr (.ops r10 false) [25,26,27] []) (.cond 28 (.dr (.ops r11 false) [28,29,30,31,32,33,34,35] []) .skip)) (.seq (.dr (.ops r12 false) [28,36,37,38,39,40] []) (.seq (.ops r13 false) (.seq (.seq (.dr (.ops r14 false) [41,42] []) (.cond 43 (.seq (.dr (.ops r15 false) [6,43,44,45] []) (.ops r16 false)) .skip)) (.dr (.ops r17 false) [8,9,43,46,47,48,49,50,51,52] []))))))) (.dr (.ops r8 false) [22,23] [])))
def c:ACode:=(.seq (.dr (.ops r0 false) [4] []) (.seq (.seq (.dr (.ops r1 false) [10,11,12] []) (.cond 13 (.seq (.dr (.ops r2 false) [0,1,13] []) .ret) .skip)) (.seq (.dr (.ops r3 false) [13,14,15] []) (.seq (.dr (.ops r4 false) [0,16,17] []) (.seq (.ops r5 false) (.seq (.seq (.ops r6 false) (.block 0 (.loop l1))) (.seq (.dr (.ops r18 false) [1,5,6,7,21,53,54] []) .ret)))))))
end ref01_Sub
def ref01_Sub:AFn:=⟨2,ref01_Sub.c,[.tmp 4],false⟩
namespace ref01_Mul
def r0:List AI:=[o 4 (.mov (.c .nil))]
def r1:List AI:=[m 9 0,o 10 (.len 9),m 11 1,o 12 (.len 11),o 13 (.bin .add 10 12),o 14 (.bin .add 13 (k 1)),o 15 (.mk 15 1 4 [(.int .u32 (0))] 14 14),m 5 15]
def r2:List AI:=[o 6 (.mov (k 0))]
def r3:List AI:=[m 16 6,m 17 0,o 18 (.len 17),o 19 (.bin .lss 16 18)]
def r5:List AI:=[o 7 (.mov (.c (.int .u64 (0))))]
def r6:List AI:=[o 8 (.mov (k 0))]
def r7:List AI:=[m 22 8,m 23 1,o 24 (.len 23),o 25 (.bin .lss 22 24)]
def r9:List AI:=[m 28 7,m 29 0,m 30 6,o 31 (.iadr none 1 29 30),o 32 (.ld false 1 31),o 33 (.conv .u64 32),m 34 1,m 35 8,o 36 (.iadr none 1 34 35),
 o 37 (.ld false 1 36),o 38 (.conv .u64 37),o 39 (.bin .mul 33 38),m 40 5,m 41 6,m 42 8,o 43 (.bin .add 41 42),o 44 (.iadr none 1 40 43),
 o 45 (.ld false 1 44),o 46 (.conv .u64 45),o 47 (.bin .add 39 46),o 48 (.bin .add 28 47),m 7 48]
def r10:List AI:=[m 49 5,m 50 6,m 51 8,o 52 (.bin .add 50 51),m 53 7,o 54 (.conv .u32 53),o 55 (.iadr none 1 49 52),n (.st 1 55 54)]
def r11:List AI:=[m 56 7,o 57 (.bin .shr 56 (.c (.int .u64 (32)))),m 7 57]
def r8:List AI:=[m 26 8,o 27 (.bin .add 26 (k 1)),m 8 27]
def r12:List AI:=[m 58 5,m 59 6,m 60 1,o 61 (.len 60),o 62 (.bin .add 59 61),m 63 7,o 64 (.conv .u32 63),o 65 (.iadr none 1 58 62),n (.st 1 65 64)]
def r4:List AI:=[m 20 6,o 21 (.bin .add 20 (k 1)),m 6 21]
def r13:List AI:=[m 66 5,o 67 (.call 101 [66]),m 4 67]
def l2:ACode:=(.seq (.seq (.dr (.ops r7 false) [22,23,24] []) (.cond 25 .skip (.exit 2))) (.seq (.block 3 (.seq (.dr (.ops r9 true) [25,28,29,30,31,32,33,34,35,36,37,38,39,40,41,42,43,44,45,46,47,48] []) (.seq (.dr (.ops r10 false) [49,50,51,52,53,54,55] []) (.dr (.ops r11 false) [56,57] [])))) (.dr (.ops r8 false) [26,27] [])))
def l1:ACode:=(.seq (.seq (.dr (.ops r3 false) [16,17,18] []) (.cond 19 .skip (.exit 0))) (.seq (.block 1 (.seq (.dr (.ops r5 false) [19] []) (.seq (.seq (.ops r6 false) (.block 2 (.loop l2))) (.dr (.ops r12 false) [7,8,25,58,59,60,61,62,63,64,65] [])))) (.dr (.ops r4 false) [20,21] [])))
def c:ACode:=(.seq (.dr (.ops r0 false) [4] []) (.seq (.dr (.ops r1 false) [9,10,11,12,13,14,15] []) (.seq (.seq (.ops r2 false) (.block 0 (.loop l1))) (.seq (.dr (.ops r13 false) [0,1,5,6,19,66,67] []) .ret))))
end ref01_Mul
def ref01_Mul:AFn:=⟨2,ref01_Mul.c,[.tmp 4],false⟩
namespace ref01_BitLen
def r0:List AI:=[o 2 (.mov (k 0))]
def r1:List AI:=[m 5 0,o 6 (.call 101 [5]),m 0 6]
def r2:List AI:=[m 7 0,o 8 (.len 7),o 9 (.bin .eql 8 (k 0))]
def r3:List AI:=[o 2 (.mov (k 0))]
def r4:List AI:=[m 10 0,o 11 (.len 10),o 12 (.bin .sub 11 (k 1)),o 13 (.bin .mul (k 32) 12),m 3 13]
def r5:List AI:=[m 14 0,m 15 0,o 16 (.len 15),o 17 (.bin .sub 16 (k 1)),o 18 (.iadr none 1 14 17),o 19 (.ld false 1 18),m 4 19]
def r6:List AI:=[m 20 4,o 21 (.bin .gtr 20 (.c (.int .u32 (0))))]
def r8:List AI:=[m 24 3,o 25 (.bin .add 24 (k 1)),m 3 25]
def r7:List AI:=[m 22 4,o 23 (.bin .shr 22 (.c (.int .u64 (1)))),m 4 23]
def r9:List AI:=[m 26 3,m 2 26]
def l1:ACode:=(.seq (.seq (.dr (.ops r6 false) [20] []) (.cond 21 .skip (.exit 0))) (.seq (.block 1 (.dr (.ops r8 false) [21,24,25] [])) (.dr (.ops r7 false) [22,23] [])))
def c:ACode:=(.seq (.dr (.ops r0 false) [2] []) (.seq (.dr (.ops r1 false) [5,6] []) (.seq (.seq (.dr (.ops r2 false) [7,8] []) (.cond 9 (.seq (.dr (.ops r3 false) [0,9] []) .ret) .skip)) (.seq (.dr (.ops r4 false) [9,10,11,12,13] []) (.seq (.seq (.dr (.ops r5 false) [0,14,15,16,17,18,19] []) (.block 0 (.loop l1))) (.seq (.dr (.ops r9 false) [3,4,21,26] []) .ret))))))
end ref01_BitLen
def ref01_BitLen:AFn:=⟨1,ref01_BitLen.c,[.tmp 2],false⟩
namespace ref01_Shift
def r0:List AI:=[o 4 (.mov (.c .nil))]
def r1:List AI:=[m 11 0,o 12 (.call 101 [11]),m 0 12]
def r2:List AI:=[m 13 1,o 14 (.bin .gtr 13 (k 65536)),m 15 14,g 16 15 false (.mov 0),g 17 15 false (.len 16),g 18 15 false (.bin .eql 17 (k 0)),
 o 19 (.pick 15 (.c (.bool true)) 18)]
def r3:List AI:=[o 4 (.mov (.c .nil))]
def r4:List AI:=[m 20 1,o 21 (.bin .lss 20 (k 0))]
def r5:List AI:=[m 22 1,m 23 0,o 24 (.len 23),o 25 (.bin .mul (k (-32)) 24),o 26 (.bin .lss 22 25)]
def r6:List AI:=[o 4 (.mov (.c .nil))]
def r7:List AI:=[m 27 1,o 28 (.un .neg 27),m 1 28]
def r8:List AI:=[o 5 (.vrow 107005 1)]
def r9:List AI:=[m 29 1,o 30 (.bin .quo 29 (k 32)),m 6 30]
def r10:List AI:=[m 31 6,m 32 0,o 33 (.len 32),o 34 (.bin .lss 31 33)]
def r12:List AI:=[m 37 0,m 38 6,o 39 (.iadr none 1 37 38),o 40 (.ld false 1 39),o 41 (.conv .u64 40),m 7 41]
def r13:List AI:=[m 42 6,o 43 (.bin .add 42 (k 1)),m 44 0,o 45 (.len 44),o 46 (.bin .lss 43 45)]
def r14:List AI:=[m 47 7,m 48 0,m 49 6,o 50 (.bin .add 49 (k 1)),o 51 (.iadr none 1 48 50),o 52 (.ld false 1 51),o 53 (.conv .u64 52),
 o 54 (.bin .shl 53 (.c (.int .u64 (32)))),o 55 (.bin .or 47 54),m 7 55]
def r15:List AI:=[m 56 5,m 57 7,m 58 1,o 59 (.bin .rem 58 (k 32)),o 60 (.conv .u64 59),o 61 (.bin .shr 57 60),o 62 (.conv .u32 61),o 63 (.bslice 107063 1 [62]),
 o 64 (.app 107064 1 4 56 63),m 5 64]
def r11:List AI:=[m 35 6,o 36 (.bin .add 35 (k 1)),m 6 36]
def r16:List AI:=[m 65 5,o 66 (.call 101 [65]),m 4 66]
def r17:List AI:=[m 67 1,o 68 (.bin .quo 67 (k 32)),o 69 (.mk 107069 1 4 [(.int .u32 (0))] 68 68),m 8 69]
def r18:List AI:=[o 9 (.mov (.c (.int .u64 (0))))]
def r19:List AI:=[o 10 (.mov (k 0))]
def r20:List AI:=[m 70 10,m 71 0,o 72 (.len 71),o 73 (.bin .lss 70 72)]
def r22:List AI:=[m 76 9,m 77 0,m 78 10,o 79 (.iadr none 1 77 78),o 80 (.ld false 1 79),o 81 (.conv .u64 80),m 82 1,o 83 (.bin .rem 82 (k 32)),o 84 (.conv .u64 83),
 o 85 (.bin .shl 81 84),o 86 (.bin .or 76 85),m 9 86]
def r23:List AI:=[m 87 8,m 88 9,o 89 (.conv .u32 88),o 90 (.bslice 107090 1 [89]),o 91 (.app 107091 1 4 87 90),m 8 91]
def r24:List AI:=[m 92 9,o 93 (.bin .shr 92 (.c (.int .u64 (32)))),m 9 93]
def r21:List AI:=[m 74 10,o 75 (.bin .add 74 (k 1)),m 10 75]
def r25:List AI:=[m 94 8,m 95 9,o 96 (.conv .u32 95),o 97 (.bslice 107097 1 [96]),o 98 (.app 107098 1 4 94 97),o 99 (.calli 101 [98]),m 4 99]
def l1:ACode:=(.seq (.seq (.dr (.ops r10 false) [31,32,33] []) (.cond 34 .skip (.exit 0))) (.seq (.block 1 (.seq (.dr (.ops r12 false) [34,37,38,39,40,41] []) (.seq (.seq (.dr (.ops r13 false) [42,43,44,45] []) (.cond 46 (.dr (.ops r14 false) [46,47,48,49,50,51,52,53,54,55] []) .skip)) (.dr (.ops r15 false) [7,46,56,57,58,59,60,61,62,63,64] [])))) (.dr (.ops r11 false) [35,36] [])))
def l2:ACode:=(.seq (.seq (.dr (.ops r20 false) [70,71,72] []) (.cond 73 .skip (.exit 2))) (.seq (.block 3 (.seq (.dr (.ops r22 false) [73,76,77,78,79,80,81,82,83,84,85,86] []) (.seq (.dr (.ops r23 false) [87,88,89,90,91] []) (.dr (.ops r24 false) [92,93] [])))) (.dr (.ops r21 false) [74,75] [])))
def c:ACode:=(.seq (.dr (.ops r0 false) [4] []) (.seq (.dr (.ops r1 false) [11,12] []) (.seq (.seq (.dr (.ops r2 false) [13,14,15,16,17,18] []) (.cond 19 (.seq (.dr (.ops r3 false) [0,1,19] []) .ret) .skip)) (.seq (.seq (.dr (.ops r4 false) [19,20] []) (.cond 21 (.seq (.seq (.dr (.ops r5 false) [21,22,23,24,25] []) (.cond 26 (.seq (.dr (.ops r6 false) [0,1,26] []) .ret) .skip)) (.seq (.dr (.ops r7 false) [26,27,28] []) (.seq (.ops r8 false) (.seq (.seq (.dr (.ops r9 false) [29,30] []) (.block 0 (.loop l1))) (.seq (.dr (.ops r16 false) [0,1,5,6,34,65,66] []) .ret))))) .skip)) (.seq (.dr (.ops r17 false) [21,67,68,69] []) (.seq (.ops r18 false) (.seq (.seq (.ops r19 false) (.block 2 (.loop l2))) (.seq (.dr (.ops r25 false) [0,1,8,9,10,73,94,95,96,97,98,99] []) .ret))))))))
end ref01_Shift
def ref01_Shift:AFn:=⟨2,ref01_Shift.c,[.tmp 4],false⟩
namespace ref01_small
def r0:List AI:=[o 4 (.mov (.c .nil)),o 5 (.mov (.c (.int .u32 (0))))]
def r1:List AI:=[m 9 0,o 10 (.len 9),o 11 (.mk 11 1 4 [(.int .u32 (0))] 10 10),m 6 11]
def r2:List AI:=[o 7 (.mov (.c (.int .u64 (0))))]
def r3:List AI:=[m 12 0,o 13 (.len 12),o 14 (.bin .sub 13 (k 1)),m 8 14]
def r4:List AI:=[m 15 8,o 16 (.bin .geq 15 (k 0))]
def r6:List AI:=[m 19 7,o 20 (.bin .shl 19 (.c (.int .u64 (32)))),m 21 0,m 22 8,o 23 (.iadr none 1 21 22),o 24 (.ld false 1 23),o 25 (.conv .u64 24),
 o 26 (.bin .or 20 25),m 7 26]
def r7:List AI:=[m 27 6,m 28 8,m 29 7,m 30 1,o 31 (.conv .u64 30),o 32 (.bin .quo 29 31),o 33 (.conv .u32 32),o 34 (.iadr none 1 27 28),n (.st 1 34 33)]
def r8:List AI:=[m 35 7,m 36 1,o 37 (.conv .u64 36),o 38 (.bin .rem 35 37),m 7 38]
def r5:List AI:=[m 17 8,o 18 (.bin .sub 17 (k 1)),m 8 18]
def r9:List AI:=[m 39 6,o 40 (.call 101 [39]),m 41 7,o 42 (.conv .u32 41),m 4 40,m 5 42]
def l1:ACode:=(.seq (.seq (.dr (.ops r4 false) [15] []) (.cond 16 .skip (.exit 0))) (.seq (.block 1 (.seq (.dr (.ops r6 false) [16,19,20,21,22,23,24,25,26] []) (.seq (.dr (.ops r7 false) [27,28,29,30,31,32,33,34] []) (.dr (.ops r8 false) [35,36,37,38] [])))) (.dr (.ops r5 false) [17,18] [])))
def c:ACode:=(.seq (.dr (.ops r0 false) [4,5] []) (.seq (.dr (.ops r1 false) [9,10,11] []) (.seq (.ops r2 false) (.seq (.seq (.dr (.ops r3 false) [12,13,14] []) (.block 0 (.loop l1))) (.seq (.dr (.ops r9 false) [0,1,6,7,8,16,39,40,41,42] []) .ret)))))
end ref01_small
def ref01_small:AFn:=⟨2,ref01_small.c,[.tmp 4,.tmp 5],false⟩
namespace ref01_DivMod
def r0:List AI:=[o 4 (.mov (.c .nil)),o 5 (.mov (.c .nil)),o 6 (.mov (k 0))]
def r1:List AI:=[m 27 0,o 28 (.call 101 [27]),m 29 1,o 30 (.call 101 [29]),m 0 28,m 1 30]
def r2:List AI:=[m 31 1,o 32 (.len 31),o 33 (.bin .eql 32 (k 0))]
def r3:List AI:=[o 4 (.mov (.c .nil)),o 5 (.mov (.c .nil)),o 6 (.mov (k 3))]
def r4:List AI:=[m 34 1,o 35 (.len 34),o 36 (.bin .eql 35 (k 1))]
def r5:List AI:=[m 38 0,m 39 1,o 40 (.iadr none 1 39 (k 0)),o 41 (.ld false 1 40),o 42 (.call 108 [38,41]),m 37 42,o 43 (.ext 37 0),o 44 (.ext 37 1),m 7 43,m 8 44]
def r6:List AI:=[m 45 7,m 46 8,o 47 (.bslice 47 1 [46]),o 48 (.call 101 [47]),m 4 45,m 5 48,o 6 (.mov (k 0))]
def r7:List AI:=[m 49 0,m 50 1,o 51 (.call 102 [49,50]),o 52 (.bin .lss 51 (k 0))]
def r8:List AI:=[m 53 0,o 4 (.mov (.c .nil)),m 5 53,o 6 (.mov (k 0))]
def r9:List AI:=[m 54 1,m 55 1,o 56 (.len 55),o 57 (.bin .sub 56 (k 1)),o 58 (.slc 1 54 (some 57) none),o 59 (.call 106 [58]),o 60 (.bin .sub (k 32) 59),m 9 60]
def r10:List AI:=[m 61 0,m 62 9,o 63 (.calli 107 [61,62]),m 64 1,m 65 9,o 66 (.call 107 [64,65]),m 10 63,m 11 66]
def r11:List AI:=[m 67 10,o 68 (.bslice 68 1 [(.c (.int .u32 (0)))]),o 69 (.app 69 1 4 67 68),m 10 69]
def r12:List AI:=[m 70 10,o 71 (.len 70),m 72 0,o 73 (.len 72),o 74 (.bin .add 73 (k 1)),o 75 (.bin .lss 71 74)]
def r13:List AI:=[m 76 10,o 77 (.bslice 77 1 [(.c (.int .u32 (0)))]),o 78 (.app 78 1 4 76 77),m 10 78]
def r14:List AI:=[m 79 11,o 80 (.len 79),m 12 80]
def r15:List AI:=[m 81 10,o 82 (.len 81),m 83 12,o 84 (.bin .sub 82 83),o 85 (.mk 85 1 4 [(.int .u32 (0))] 84 84),m 13 85]
def r16:List AI:=[m 86 10,o 87 (.len 86),m 88 12,o 89 (.bin .sub 87 88),o 90 (.bin .sub 89 (k 1)),m 14 90]
def r17:List AI:=[m 91 14,o 92 (.bin .geq 91 (k 0))]
def r19:List AI:=[m 95 10,m 96 14,m 97 12,o 98 (.bin .add 96 97),o 99 (.iadr none 1 95 98),o 100 (.ld false 1 99),o 101 (.conv .u64 100),
 o 102 (.bin .shl 101 (.c (.int .u64 (32)))),m 103 10,m 104 14,m 105 12,o 106 (.bin .add 104 105),o 107 (.bin .sub 106 (k 1)),
 o 108 (.iadr none 1 103 107),o 109 (.ld false 1 108),o 110 (.conv .u64 109),o 111 (.bin .or 102 110),m 15 111]
def r20:List AI:=[m 112 15,m 113 11,m 114 12,o 115 (.bin .sub 114 (k 1)),o 116 (.iadr none 1 113 115),o 117 (.ld false 1 116),o 118 (.conv .u64 117),
 o 119 (.bin .quo 112 118),m 16 119]
def r21:List AI:=[m 120 15,m 121 11,m 122 12,o 123 (.bin .sub 122 (k 1)),o 124 (.iadr none 1 121 123),o 125 (.ld false 1 124),o 126 (.conv .u64 125),
 o 127 (.bin .rem 120 126),m 17 127]
def r22:List AI:=[m 128 16,o 129 (.bin .geq 128 (.c (.int .u64 (4294967296)))),m 130 129,g 131 130 false (.mov 16),g 132 130 false (.mov 11),g 133 130 false (.mov 12),
 g 134 130 false (.bin .sub 133 (k 2)),g 135 130 false (.iadr none 1 132 134),g 136 130 false (.ld false 1 135),g 137 130 false (.conv .u64 136),
 g 138 130 false (.bin .mul 131 137),g 139 130 false (.mov 17),g 140 130 false (.bin .shl 139 (.c (.int .u64 (32)))),g 141 130 false (.mov 10),
 g 142 130 false (.mov 14),g 143 130 false (.mov 12),g 144 130 false (.bin .add 142 143),g 145 130 false (.bin .sub 144 (k 2)),
 g 146 130 false (.iadr none 1 141 145),g 147 130 false (.ld false 1 146),g 148 130 false (.conv .u64 147),g 149 130 false (.bin .or 140 148),
 g 150 130 false (.bin .gtr 138 149),o 151 (.pick 130 (.c (.bool true)) 150)]
def r23:List AI:=[m 152 16,o 153 (.bin .sub 152 (.c (.int .u64 (1)))),m 16 153]
def r24:List AI:=[m 154 17,m 155 11,m 156 12,o 157 (.bin .sub 156 (k 1)),o 158 (.iadr none 1 155 157),o 159 (.ld false 1 158),o 160 (.conv .u64 159),
 o 161 (.bin .add 154 160),m 17 161]
def r25:List AI:=[m 162 17,o 163 (.bin .geq 162 (.c (.int .u64 (4294967296))))]
def r26:List AI:=[o 18 (.mov (.c (.int .u64 (0)))),o 19 (.mov (.c (.int .u64 (0))))]
def r27:List AI:=[o 20 (.mov (k 0))]
def r28:List AI:=[m 164 20,m 165 12,o 166 (.bin .lss 164 165)]
def r30:List AI:=[m 169 19,m 170 16,m 171 11,m 172 20,o 173 (.iadr none 1 171 172),o 174 (.ld false 1 173),o 175 (.conv .u64 174),o 176 (.bin .mul 170 175),
 o 177 (.bin .add 169 176),m 19 177]
def r31:List AI:=[m 178 19,o 179 (.bin .and 178 (.c (.int .u64 (4294967295)))),m 180 18,o 181 (.bin .add 179 180),m 21 181]
def r32:List AI:=[m 182 19,o 183 (.bin .shr 182 (.c (.int .u64 (32)))),m 19 183]
def r33:List AI:=[m 184 10,m 185 20,m 186 14,o 187 (.bin .add 185 186),o 188 (.iadr none 1 184 187),o 189 (.ld false 1 188),o 190 (.conv .u64 189),m 22 190]
def r34:List AI:=[o 18 (.mov (.c (.int .u64 (0))))]
def r35:List AI:=[m 191 22,m 192 21,o 193 (.bin .lss 191 192)]
def r36:List AI:=[m 194 22,o 195 (.bin .add 194 (.c (.int .u64 (4294967296)))),m 22 195]
def r37:List AI:=[o 18 (.mov (.c (.int .u64 (1))))]
def r38:List AI:=[m 196 10,m 197 20,m 198 14,o 199 (.bin .add 197 198),m 200 22,m 201 21,o 202 (.bin .sub 200 201),o 203 (.conv .u32 202),o 204 (.iadr none 1 196 199),
 n (.st 1 204 203)]
def r29:List AI:=[m 167 20,o 168 (.bin .add 167 (k 1)),m 20 168]
def r39:List AI:=[m 205 19,m 206 18,o 207 (.bin .add 205 206),m 23 207]
def r40:List AI:=[m 208 10,m 209 14,m 210 12,o 211 (.bin .add 209 210),o 212 (.iadr none 1 208 211),o 213 (.ld false 1 212),o 214 (.conv .u64 213),m 24 214]
def r41:List AI:=[o 18 (.mov (.c (.int .u64 (0))))]
def r42:List AI:=[m 215 24,m 216 23,o 217 (.bin .lss 215 216)]
def r43:List AI:=[m 218 24,o 219 (.bin .add 218 (.c (.int .u64 (4294967296)))),m 24 219]
def r44:List AI:=[o 18 (.mov (.c (.int .u64 (1))))]
def r45:List AI:=[m 220 10,m 221 14,m 222 12,o 223 (.bin .add 221 222),m 224 24,m 225 23,o 226 (.bin .sub 224 225),o 227 (.conv .u32 226),o 228 (.iadr none 1 220 223),
 n (.st 1 228 227)]
def r46:List AI:=[m 229 18,o 230 (.bin .eql 229 (.c (.int .u64 (1))))]
def r47:List AI:=[m 231 16,o 232 (.bin .sub 231 (.c (.int .u64 (1)))),m 16 232]
def r48:List AI:=[o 25 (.mov (.c (.int .u64 (0))))]
def r49:List AI:=[o 26 (.mov (k 0))]
def r50:List AI:=[m 233 26,m 234 12,o 235 (.bin .lss 233 234)]
def r52:List AI:=[m 238 25,m 239 10,m 240 26,m 241 14,o 242 (.bin .add 240 241),o 243 (.iadr none 1 239 242),o 244 (.ld false 1 243),o 245 (.conv .u64 244),m 246 11,
 m 247 26,o 248 (.iadr none 1 246 247),o 249 (.ld false 1 248),o 250 (.conv .u64 249),o 251 (.bin .add 245 250),o 252 (.bin .add 238 251),m 25 252]
def r53:List AI:=[m 253 10,m 254 26,m 255 14,o 256 (.bin .add 254 255),m 257 25,o 258 (.conv .u32 257),o 259 (.iadr none 1 253 256),n (.st 1 259 258)]
def r54:List AI:=[m 260 25,o 261 (.bin .shr 260 (.c (.int .u64 (32)))),m 25 261]
def r51:List AI:=[m 236 26,o 237 (.bin .add 236 (k 1)),m 26 237]
def r55:List AI:=[m 262 10,m 263 14,m 264 12,o 265 (.bin .add 263 264),o 266 (.iadr none 1 262 265),o 267 (.ld false 1 266),m 268 25,o 269 (.conv .u32 268),
 o 270 (.bin .add 267 269),o 271 (.iadr none 1 262 265),n (.st 1 271 270)]
def r56:List AI:=[m 272 13,m 273 14,m 274 16,o 275 (.conv .u32 274),o 276 (.iadr none 1 272 273),n (.st 1 276 275)]
def r18:List AI:=[m 93 14,o 94 (.bin .sub 93 (k 1)),m 14 94]
def r57:List AI:=[m 277 13,o 278 (.call 101 [277]),m 279 10,m 280 12,o 281 (.slc 1 279 none (some 280)),m 282 9,o 283 (.un .neg 282),o 284 (.call 107 [281,283]),m 4 278,
 m 5 284,o 6 (.mov (k 0))]
def l1:ACode:=(.seq (.seq (.dr (.ops r12 false) [70,71,72,73,74] []) (.cond 75 .skip (.exit 0))) (.block 1 (.dr (.ops r13 false) [75,76,77,78] [])))
def l3:ACode:=(.seq (.seq (.dr (.ops r22 true) [128,129,130,131,132,133,134,135,136,137,138,139,140,141,142,143,144,145,146,147,148,149,150,163] []) (.cond 151 .skip (.exit 4))) (.block 5 (.seq (.dr (.ops r23 false) [151,152,153] []) (.seq (.dr (.ops r24 false) [154,155,156,157,158,159,160,161] []) (.seq (.dr (.ops r25 false) [162] []) (.cond 163 (.exit 4) .skip))))))
def l4:ACode:=(.seq (.seq (.dr (.ops r28 false) [164,165] []) (.cond 166 .skip (.exit 6))) (.seq (.block 7 (.seq (.dr (.ops r30 false) [166,169,170,171,172,173,174,175,176,177] []) (.seq (.dr (.ops r31 false) [18,178,179,180,181] []) (.seq (.dr (.ops r32 false) [182,183] []) (.seq (.dr (.ops r33 false) [184,185,186,187,188,189,190] []) (.seq (.ops r34 false) (.seq (.seq (.dr (.ops r35 false) [191,192] []) (.cond 193 (.seq (.dr (.ops r36 false) [18,193,194,195] []) (.ops r37 false)) .skip)) (.dr (.ops r38 false) [21,22,193,196,197,198,199,200,201,202,203,204] [])))))))) (.dr (.ops r29 false) [167,168] [])))
def l5:ACode:=(.seq (.seq (.dr (.ops r50 false) [233,234] []) (.cond 235 .skip (.exit 8))) (.seq (.block 9 (.seq (.dr (.ops r52 true) [235,238,239,240,241,242,243,244,245,246,247,248,249,250,251,252] []) (.seq (.dr (.ops r53 false) [253,254,255,256,257,258,259] []) (.dr (.ops r54 false) [260,261] [])))) (.dr (.ops r51 false) [236,237] [])))
def l2:ACode:=(.seq (.seq (.dr (.ops r17 false) [91] []) (.cond 92 .skip (.exit 2))) (.seq (.block 3 (.seq (.dr (.ops r19 true) [92,95,96,97,98,99,100,101,102,103,104,105,106,107,108,109,110,111] []) (.seq (.dr (.ops r20 false) [112,113,114,115,116,117,118,119] []) (.seq (.dr (.ops r21 false) [15,120,121,122,123,124,125,126,127] []) (.seq (.block 4 (.loop l3)) (.seq (.dr (.ops r26 false) [17,151,163] []) (.seq (.seq (.ops r27 false) (.block 6 (.loop l4))) (.seq (.dr (.ops r39 false) [18,19,20,166,205,206,207] []) (.seq (.dr (.ops r40 false) [208,209,210,211,212,213,214] []) (.seq (.ops r41 false) (.seq (.seq (.dr (.ops r42 false) [215,216] []) (.cond 217 (.seq (.dr (.ops r43 false) [18,217,218,219] []) (.ops r44 false)) .skip)) (.seq (.dr (.ops r45 false) [23,24,217,220,221,222,223,224,225,226,227,228] []) (.seq (.seq (.dr (.ops r46 false) [18,229] []) (.cond 230 (.seq (.dr (.ops r47 false) [230,231,232] []) (.seq (.ops r48 false) (.seq (.seq (.ops r49 false) (.block 8 (.loop l5))) (.dr (.ops r55 false) [25,26,235,262,263,264,265,266,267,268,269,270,271] [])))) .skip)) (.dr (.ops r56 false) [16,230,272,273,274,275,276] [])))))))))))))) (.dr (.ops r18 false) [93,94] [])))
def c:ACode:=(.seq (.dr (.ops r0 false) [4,5,6] []) (.seq (.dr (.ops r1 false) [27,28,29,30] []) (.seq (.seq (.dr (.ops r2 false) [31,32] []) (.cond 33 (.seq (.dr (.ops r3 false) [0,1,33] []) .ret) .skip)) (.seq (.seq (.dr (.ops r4 false) [33,34,35] []) (.cond 36 (.seq (.dr (.ops r5 false) [0,1,36,37,38,39,40,41,42,43,44] []) (.seq (.dr (.ops r6 false) [7,8,45,46,47,48] []) .ret)) .skip)) (.seq (.seq (.dr (.ops r7 false) [36,49,50,51] []) (.cond 52 (.seq (.dr (.ops r8 false) [0,1,52,53] []) .ret) .skip)) (.seq (.dr (.ops r9 false) [52,54,55,56,57,58,59,60] []) (.seq (.dr (.ops r10 false) [1,61,62,63,64,65,66] []) (.seq (.dr (.ops r11 false) [67,68,69] []) (.seq (.block 0 (.loop l1)) (.seq (.dr (.ops r14 false) [0,75,79,80] []) (.seq (.dr (.ops r15 false) [81,82,83,84,85] []) (.seq (.seq (.dr (.ops r16 false) [86,87,88,89,90] []) (.block 2 (.loop l2))) (.seq (.dr (.ops r57 true) [9,10,11,12,13,14,92,277,278,279,280,281,282,283,284] []) .ret)))))))))))))
end ref01_DivMod
def ref01_DivMod:AFn:=⟨2,ref01_DivMod.c,[.tmp 4,.tmp 5,.tmp 6],false⟩
namespace ref01_Gcd
def r0:List AI:=[o 4 (.mov (.c .nil))]
def r1:List AI:=[m 8 0,o 9 (.call 101 [8]),m 10 1,o 11 (.call 101 [10]),m 0 9,m 1 11]
def r2:List AI:=[m 12 1,o 13 (.len 12),o 14 (.bin .gtr 13 (k 0))]
def r3:List AI:=[m 16 0,m 17 1,o 18 (.call 109 [16,17]),m 15 18,o 19 (.ext 15 0),o 20 (.ext 15 1),o 21 (.ext 15 2),m 5 19,m 6 20,m 7 21]
def r4:List AI:=[m 22 1,m 23 6,m 0 22,m 1 23]
def r5:List AI:=[m 24 0,m 4 24]
def l1:ACode:=(.seq (.seq (.dr (.ops r2 false) [12,13] []) (.cond 14 .skip (.exit 0))) (.block 1 (.seq (.dr (.ops r3 false) [0,5,7,14,15,16,17,18,19,20,21] []) (.dr (.ops r4 false) [6,22,23] []))))
def c:ACode:=(.seq (.dr (.ops r0 false) [4] []) (.seq (.dr (.ops r1 false) [8,9,10,11] []) (.seq (.block 0 (.loop l1)) (.seq (.dr (.ops r5 false) [0,1,14,24] []) .ret))))
end ref01_Gcd
def ref01_Gcd:AFn:=⟨2,ref01_Gcd.c,[.tmp 4],false⟩
namespace ref02_Trim
def r0:List AI:=[o 1 (.box 1 0),o 2 (.alloc 2 [(.bool false),.nil])]
def r1:List AI:=[o 4 (.fadr 1 1),o 5 (.ld false 1 4),o 6 (.call 101 [5]),m 3 6]
def r2:List AI:=[o 7 (.fadr 1 0),o 8 (.ld false 1 7),m 9 8,g 10 9 true (.mov 3),g 11 9 true (.len 10),g 12 9 true (.bin .gtr 11 (k 0)),
 o 13 (.pick 9 12 (.c (.bool false))),m 14 3,o 15 (.build [(.bool false),.nil] [(0,1,13),(1,1,14)]),n (.st 2 2 15)]
def c:ACode:=(.seq (.dr (.ops r0 false) [0] []) (.seq (.dr (.ops r1 false) [4,5,6] []) (.seq (.dr (.ops r2 false) [1,3,7,8,9,10,11,12,13,14,15] []) .ret)))
end ref02_Trim
def ref02_Trim:AFn:=⟨1,ref02_Trim.c,[.cell 2 true 2],false⟩
namespace ref02_Of
def r0:List AI:=[o 2 (.alloc 2 [(.bool false),.nil])]
def r1:List AI:=[m 4 0,o 5 (.bin .lss 4 (k 0))]
def r2:List AI:=[m 6 0,o 7 (.bin .add 6 (k 1)),o 8 (.un .neg 7),o 9 (.conv .u64 8),o 10 (.bin .add 9 (.c (.int .u64 (1)))),m 3 10]
def r3:List AI:=[m 11 3,o 12 (.conv .u32 11),m 13 3,o 14 (.bin .shr 13 (.c (.int .u64 (32)))),o 15 (.conv .u32 14),o 16 (.bslice 16 1 [12,15]),
 o 17 (.build [(.bool false),.nil] [(0,1,(.c (.bool true))),(1,1,16)]),o 18 (.call 111 [17]),n (.st 2 2 18)]
def r4:List AI:=[m 19 0,o 20 (.conv .u32 19),m 21 0,o 22 (.conv .u64 21),o 23 (.bin .shr 22 (.c (.int .u64 (32)))),o 24 (.conv .u32 23),o 25 (.bslice 25 1 [20,24]),
 o 26 (.build [(.bool false),.nil] [(1,1,25)]),o 27 (.call 111 [26]),n (.st 2 2 27)]
def c:ACode:=(.seq (.ops r0 false) (.seq (.seq (.dr (.ops r1 false) [4] []) (.cond 5 (.seq (.dr (.ops r2 false) [0,5,6,7,8,9,10] []) (.seq (.dr (.ops r3 false) [3,11,12,13,14,15,16,17,18] []) .ret)) .skip)) (.seq (.dr (.ops r4 false) [0,5,19,20,21,22,23,24,25,26,27] []) .ret)))
end ref02_Of
def ref02_Of:AFn:=⟨1,ref02_Of.c,[.cell 2 true 2],false⟩
namespace ref02_Sign
def r0:List AI:=[o 1 (.box 1 0),o 2 (.mov (k 0))]
def r1:List AI:=[o 3 (.ld true 2 1),o 4 (.call 111 [3]),n (.st 2 1 4)]
def r2:List AI:=[o 6 (.fadr 1 1),o 7 (.ld false 1 6),o 8 (.len 7),o 9 (.bin .eql 8 (k 0)),m 5 9]
def r3:List AI:=[o 2 (.mov (k 0))]
def r4:List AI:=[o 11 (.fadr 1 0),o 12 (.ld false 1 11),m 10 12]
def r5:List AI:=[o 2 (.mov (k (-1)))]
def r6:List AI:=[o 2 (.mov (k 1))]
def c:ACode:=(.seq (.dr (.ops r0 false) [0,2] []) (.seq (.dr (.ops r1 false) [3,4] []) (.seq (.block 0 (.seq (.dr (.ops r2 false) [6,7,8,9] []) (.cond 5 (.seq (.dr (.ops r3 false) [1,5] []) .ret) (.seq (.dr (.ops r4 false) [1,5,11,12] []) (.cond 10 (.seq (.dr (.ops r5 false) [10] []) .ret) .skip))))) (.seq (.dr (.ops r6 false) [10] []) .ret))))
end ref02_Sign
def ref02_Sign:AFn:=⟨1,ref02_Sign.c,[.tmp 2],false⟩
namespace ref02_Neg
def r0:List AI:=[o 1 (.box 1 0),o 2 (.alloc 2 [(.bool false),.nil])]
def r1:List AI:=[o 3 (.ld true 2 1),o 4 (.call 111 [3]),n (.st 2 1 4)]
def r2:List AI:=[o 5 (.fadr 1 0),o 6 (.ld false 1 5),o 7 (.un .not 6),m 8 7,g 9 8 true (.fadr 1 1),g 10 8 true (.ld false 1 9),g 11 8 true (.len 10),
 g 12 8 true (.bin .gtr 11 (k 0)),o 13 (.pick 8 12 (.c (.bool false))),o 14 (.fadr 1 0),n (.st 1 14 13)]
def r3:List AI:=[o 15 (.ld true 2 1),n (.st 2 2 15)]
def c:ACode:=(.seq (.dr (.ops r0 false) [0] []) (.seq (.dr (.ops r1 false) [3,4] []) (.seq (.dr (.ops r2 false) [5,6,7,8,9,10,11,12,13,14] []) (.seq (.dr (.ops r3 false) [1,15] []) .ret))))
end ref02_Neg
def ref02_Neg:AFn:=⟨1,ref02_Neg.c,[.cell 2 true 2],false⟩
namespace ref02_Add
def r0:List AI:=[o 2 (.box 2 0),o 3 (.box 3 1),o 4 (.alloc 4 [(.bool false),.nil])]
def r1:List AI:=[o 5 (.ld true 2 2),o 6 (.call 111 [5]),o 7 (.ld true 2 3),o 8 (.call 111 [7]),n (.st 2 2 6),n (.st 2 3 8)]
def r2:List AI:=[o 9 (.fadr 2 0),o 10 (.ld false 1 9),o 11 (.fadr 3 0),o 12 (.ld false 1 11),o 13 (.beq false 10 12)]
def r3:List AI:=[o 14 (.fadr 2 0),o 15 (.ld false 1 14),o 16 (.fadr 2 1),o 17 (.ld false 1 16),o 18 (.fadr 3 1),o 19 (.ld false 1 18),o 20 (.call 103 [17,19]),
 o 21 (.build [(.bool false),.nil] [(0,1,15),(1,1,20)]),o 22 (.call 111 [21]),n (.st 2 4 22)]
def r4:List AI:=[o 23 (.fadr 2 1),o 24 (.ld false 1 23),o 25 (.fadr 3 1),o 26 (.ld false 1 25),o 27 (.call 102 [24,26]),o 28 (.bin .geq 27 (k 0))]
def r5:List AI:=[o 29 (.fadr 2 0),o 30 (.ld false 1 29),o 31 (.fadr 2 1),o 32 (.ld false 1 31),o 33 (.fadr 3 1),o 34 (.ld false 1 33),o 35 (.call 104 [32,34]),
 o 36 (.build [(.bool false),.nil] [(0,1,30),(1,1,35)]),o 37 (.call 111 [36]),n (.st 2 4 37)]
def r6:List AI:=[o 38 (.fadr 3 0),o 39 (.ld false 1 38),o 40 (.fadr 3 1),o 41 (.ld false 1 40),o 42 (.fadr 2 1),o 43 (.ld false 1 42),o 44 (.call 104 [41,43]),
 o 45 (.build [(.bool false),.nil] [(0,1,39),(1,1,44)]),o 46 (.call 111 [45]),n (.st 2 4 46)]
def c:ACode:=(.seq (.dr (.ops r0 false) [0,1] []) (.seq (.dr (.ops r1 true) [5,6,7,8] []) (.seq (.seq (.dr (.ops r2 false) [9,10,11,12] []) (.cond 13 (.seq (.dr (.ops r3 true) [2,3,13,14,15,16,17,18,19,20,21,22] []) .ret) .skip)) (.seq (.seq (.dr (.ops r4 false) [13,23,24,25,26,27] []) (.cond 28 (.seq (.dr (.ops r5 true) [2,3,28,29,30,31,32,33,34,35,36,37] []) .ret) .skip)) (.seq (.dr (.ops r6 true) [2,3,28,38,39,40,41,42,43,44,45,46] []) .ret)))))
end ref02_Add
def ref02_Add:AFn:=⟨2,ref02_Add.c,[.cell 4 true 2],false⟩
namespace ref02_Sub
def r0:List AI:=[o 2 (.box 2 0),o 3 (.box 3 1),o 4 (.alloc 4 [(.bool false),.nil])]
def r1:List AI:=[o 5 (.ld true 2 2),o 6 (.ld true 2 3),o 7 (.call 114 [6]),o 8 (.call 115 [5,7]),n (.st 2 4 8)]
def c:ACode:=(.seq (.dr (.ops r0 false) [0,1] []) (.seq (.dr (.ops r1 true) [2,3,5,6,7,8] []) .ret))
end ref02_Sub
def ref02_Sub:AFn:=⟨2,ref02_Sub.c,[.cell 4 true 2],false⟩
namespace ref02_Compare
def r0:List AI:=[o 2 (.box 2 0),o 3 (.box 3 1),o 4 (.mov (k 0))]
def r1:List AI:=[o 5 (.ld true 2 2),o 6 (.ld true 2 3),o 7 (.call 116 [5,6]),o 8 (.call 113 [7]),m 4 8]
def c:ACode:=(.seq (.dr (.ops r0 false) [0,1,4] []) (.seq (.dr (.ops r1 false) [2,3,5,6,7,8] []) .ret))
end ref02_Compare
def ref02_Compare:AFn:=⟨2,ref02_Compare.c,[.tmp 4],false⟩
namespace ref02_Mul
def r0:List AI:=[o 2 (.box 2 0),o 3 (.box 3 1),o 4 (.alloc 4 [(.bool false),.nil])]
def r1:List AI:=[o 5 (.fadr 2 0),o 6 (.ld false 1 5),o 7 (.fadr 3 0),o 8 (.ld false 1 7),o 9 (.beq true 6 8),o 10 (.fadr 2 1),o 11 (.ld false 1 10),o 12 (.fadr 3 1),
 o 13 (.ld false 1 12),o 14 (.call 105 [11,13]),o 15 (.build [(.bool false),.nil] [(0,1,9),(1,1,14)]),o 16 (.call 111 [15]),n (.st 2 4 16)]
def c:ACode:=(.seq (.dr (.ops r0 false) [0,1] []) (.seq (.dr (.ops r1 true) [2,3,5,6,7,8,9,10,11,12,13,14,15,16] []) .ret))
end ref02_Mul
def ref02_Mul:AFn:=⟨2,ref02_Mul.c,[.cell 4 true 2],false⟩
namespace ref02_Div
def r0:List AI:=[o 2 (.box 2 0),o 3 (.box 3 1),o 4 (.alloc 4 [(.bool false),.nil]),o 5 (.alloc 5 [(.bool false),.nil]),o 6 (.mov (k 0))]
def r1:List AI:=[o 10 (.ld true 2 2),o 11 (.call 111 [10]),o 12 (.ld true 2 3),o 13 (.call 111 [12]),n (.st 2 2 11),n (.st 2 3 13)]
def r2:List AI:=[o 15 (.fadr 2 1),o 16 (.ld false 1 15),o 17 (.fadr 3 1),o 18 (.ld false 1 17),o 19 (.call 109 [16,18]),m 14 19,o 20 (.ext 14 0),o 21 (.ext 14 1),
 o 22 (.ext 14 2),m 7 20,m 8 21,m 9 22]
def r3:List AI:=[m 23 9,o 24 (.bin .neq 23 (k 0))]
def r4:List AI:=[o 25 (.build [(.bool false),.nil] []),o 26 (.build [(.bool false),.nil] []),m 27 9,n (.st 2 4 25),n (.st 2 5 26),m 6 27]
def r5:List AI:=[o 28 (.fadr 2 0),o 29 (.ld false 1 28),m 30 29,g 31 30 true (.mov 8),g 32 30 true (.len 31),g 33 30 true (.bin .gtr 32 (k 0)),
 o 34 (.pick 30 33 (.c (.bool false)))]
def r6:List AI:=[m 35 7,o 36 (.bslice 36 1 [(.c (.int .u32 (1)))]),o 37 (.call 103 [35,36]),o 38 (.fadr 3 1),⟨some 39,.ld false 1 38,none,[36]⟩,m 40 8,
 o 41 (.call 104 [39,40]),m 7 37,m 8 41]
def r7:List AI:=[o 42 (.fadr 2 0),o 43 (.ld false 1 42),o 44 (.fadr 3 0),o 45 (.ld false 1 44),o 46 (.beq true 43 45),m 47 7,
 o 48 (.build [(.bool false),.nil] [(0,1,46),(1,1,47)]),o 49 (.call 111 [48]),m 50 8,o 51 (.build [(.bool false),.nil] [(1,1,50)]),n (.st 2 4 49),
 n (.st 2 5 51),o 6 (.mov (k 0))]
def c:ACode:=(.seq (.dr (.ops r0 false) [0,1,6] []) (.seq (.dr (.ops r1 true) [10,11,12,13] []) (.seq (.dr (.ops r2 false) [14,15,16,17,18,19,20,21,22] []) (.seq (.seq (.dr (.ops r3 false) [23] []) (.cond 24 (.seq (.dr (.ops r4 false) [2,3,7,8,9,24,25,26,27] []) .ret) .skip)) (.seq (.seq (.dr (.ops r5 false) [9,24,28,29,30,31,32,33] []) (.cond 34 (.dr (.ops r6 true) [34,35,36,37,38,39,40,41] []) .skip)) (.seq (.dr (.ops r7 false) [2,3,7,8,34,42,43,44,45,46,47,48,49,50,51] []) .ret))))))
end ref02_Div
def ref02_Div:AFn:=⟨2,ref02_Div.c,[.cell 4 true 2,.cell 5 true 2,.tmp 6],false⟩
namespace ref02_Gcd
def r0:List AI:=[o 2 (.box 2 0),o 3 (.box 3 1),o 4 (.alloc 4 [(.bool false),.nil])]
def r1:List AI:=[o 5 (.fadr 2 1),o 6 (.ld false 1 5),o 7 (.fadr 3 1),o 8 (.ld false 1 7),o 9 (.call 110 [6,8]),o 10 (.build [(.bool false),.nil] [(1,1,9)]),
 n (.st 2 4 10)]
def c:ACode:=(.seq (.dr (.ops r0 false) [0,1] []) (.seq (.dr (.ops r1 false) [2,3,5,6,7,8,9,10] []) .ret))
end ref02_Gcd
def ref02_Gcd:AFn:=⟨2,ref02_Gcd.c,[.cell 4 true 2],false⟩
namespace ref03_reduce
def r0:List AI:=[o 2 (.box 2 0),o 3 (.box 3 1),o 4 (.alloc 4 [(.bool false),.nil,.nil])]
def r1:List AI:=[o 12 (.ld true 2 2),o 13 (.call 113 [12]),o 14 (.bin .eql 13 (k 0)),m 15 14,g 16 15 false (.ld true 2 3),g 17 15 false (.call 113 [16]),
 g 18 15 false (.bin .eql 17 (k 0)),o 19 (.pick 15 (.c (.bool true)) 18)]
def r2:List AI:=[o 20 (.bslice 20 1 [(.c (.int .u32 (1)))]),o 21 (.build [(.bool false),.nil,.nil] [(2,1,20)]),n (.st 3 4 21)]
def r3:List AI:=[o 22 (.ld true 2 2),o 23 (.ld true 2 3),o 24 (.call 120 [22,23]),o 5 (.alloc 5 [(.bool false),.nil]),n (.st 2 5 24)]
def r4:List AI:=[o 26 (.ld true 2 2),o 27 (.ld true 2 5),o 28 (.call 119 [26,27]),m 25 28,o 29 (.ext 25 0),o 30 (.ext 25 1),o 31 (.ext 25 2),
 o 6 (.alloc 6 [(.bool false),.nil]),o 7 (.alloc 7 [(.bool false),.nil]),n (.st 2 6 29),n (.st 2 7 30),m 8 31]
def r5:List AI:=[o 33 (.ld true 2 3),o 34 (.ld true 2 5),o 35 (.call 119 [33,34]),m 32 35,o 36 (.ext 32 0),o 37 (.ext 32 1),o 38 (.ext 32 2),
 o 9 (.alloc 9 [(.bool false),.nil]),o 10 (.alloc 10 [(.bool false),.nil]),n (.st 2 9 36),n (.st 2 10 37),m 11 38]
def r6:List AI:=[o 39 (.fadr 9 0),o 40 (.ld false 1 39)]
def r7:List AI:=[o 41 (.ld true 2 6),o 42 (.call 114 [41]),n (.st 2 6 42)]
def r8:List AI:=[o 43 (.ld true 2 6),o 44 (.fadr 9 1),o 45 (.ld false 1 44),o 46 (.build [(.bool false),.nil,.nil] [(0,2,43),(2,1,45)]),n (.st 3 4 46)]
def c:ACode:=(.seq (.dr (.ops r0 false) [0,1] []) (.seq (.seq (.dr (.ops r1 false) [12,13,14,15,16,17,18] []) (.cond 19 (.seq (.dr (.ops r2 false) [2,3,19,20,21] []) .ret) .skip)) (.seq (.dr (.ops r3 false) [19,22,23,24] []) (.seq (.dr (.ops r4 false) [2,7,8,25,26,27,28,29,30,31] []) (.seq (.dr (.ops r5 false) [3,5,10,11,32,33,34,35,36,37,38] []) (.seq (.seq (.dr (.ops r6 false) [39] []) (.cond 40 (.dr (.ops r7 false) [40,41,42] []) .skip)) (.seq (.dr (.ops r8 false) [6,9,40,43,44,45,46] []) .ret)))))))
end ref03_reduce
def ref03_reduce:AFn:=⟨2,ref03_reduce.c,[.cell 4 true 3],false⟩
namespace ref03_parts
def r0:List AI:=[o 1 (.box 1 0),o 2 (.alloc 2 [(.bool false),.nil]),o 3 (.alloc 3 [(.bool false),.nil])]
def r1:List AI:=[o 5 (.fadr 1 2),o 6 (.ld false 1 5),o 7 (.call 101 [6]),o 8 (.build [(.bool false),.nil] [(1,1,7)]),o 4 (.alloc 4 [(.bool false),.nil]),n (.st 2 4 8)]
def r2:List AI:=[o 9 (.fadr 4 1),o 10 (.ld false 1 9),o 11 (.len 10),o 12 (.bin .eql 11 (k 0))]
def r3:List AI:=[o 13 (.build [(.bool false),.nil] []),o 14 (.bslice 14 1 [(.c (.int .u32 (1)))]),o 15 (.build [(.bool false),.nil] [(1,1,14)]),n (.st 2 2 13),
 n (.st 2 3 15)]
def r4:List AI:=[o 16 (.fadr 1 0),o 17 (.ld true 2 16),⟨some 18,.ld true 2 4,none,[2]⟩,n (.sto 2 2 2 17),n (.st 2 3 18)]
def c:ACode:=(.seq (.dr (.ops r0 false) [0] []) (.seq (.dr (.ops r1 false) [5,6,7,8] []) (.seq (.seq (.dr (.ops r2 false) [9,10,11] []) (.cond 12 (.seq (.dr (.ops r3 false) [1,4,12,13,14,15] []) .ret) .skip)) (.seq (.dr (.ops r4 true) [1,4,12,16,17,18] []) .ret))))
end ref03_parts
def ref03_parts:AFn:=⟨1,ref03_parts.c,[.cell 2 true 2,.cell 3 true 2],false⟩
namespace ref03_Trim
def r0:List AI:=[o 1 (.box 1 0),o 2 (.alloc 2 [(.bool false),.nil,.nil])]
def r1:List AI:=[o 6 (.ld true 3 1),o 7 (.call 122 [6]),m 5 7,o 8 (.ext 5 0),o 9 (.ext 5 1),o 3 (.alloc 3 [(.bool false),.nil]),o 4 (.alloc 4 [(.bool false),.nil]),
 n (.st 2 3 8),n (.st 2 4 9)]
def r2:List AI:=[o 10 (.ld true 2 3),o 11 (.ld true 2 4),o 12 (.call 121 [10,11]),n (.st 3 2 12)]
def c:ACode:=(.seq (.dr (.ops r0 false) [0] []) (.seq (.dr (.ops r1 false) [1,5,6,7,8,9] []) (.seq (.dr (.ops r2 false) [3,4,10,11,12] []) .ret)))
end ref03_Trim
def ref03_Trim:AFn:=⟨1,ref03_Trim.c,[.cell 2 true 3],false⟩
namespace ref03_Of
def r0:List AI:=[o 2 (.alloc 2 [(.bool false),.nil,.nil])]
def r1:List AI:=[m 3 0,o 4 (.call 112 [3]),o 5 (.bslice 5 1 [(.c (.int .u32 (1)))]),o 6 (.build [(.bool false),.nil,.nil] [(0,2,4),(2,1,5)]),n (.st 3 2 6)]
def c:ACode:=(.seq (.ops r0 false) (.seq (.dr (.ops r1 false) [0,3,4,5,6] []) .ret))
end ref03_Of
def ref03_Of:AFn:=⟨1,ref03_Of.c,[.cell 2 true 3],false⟩
namespace ref03_Frac
def r0:List AI:=[o 4 (.alloc 4 [(.bool false),.nil,.nil])]
def r1:List AI:=[m 5 0,o 6 (.call 112 [5]),m 7 1,o 8 (.call 112 [7]),o 9 (.call 121 [6,8]),n (.st 3 4 9)]
def c:ACode:=(.seq (.ops r0 false) (.seq (.dr (.ops r1 false) [0,1,5,6,7,8,9] []) .ret))
end ref03_Frac
def ref03_Frac:AFn:=⟨2,ref03_Frac.c,[.cell 4 true 3],false⟩
namespace ref03_Add
def r0:List AI:=[o 2 (.box 2 0),o 3 (.box 3 1),o 4 (.alloc 4 [(.bool false),.nil,.nil])]
def r1:List AI:=[o 10 (.ld true 3 2),o 11 (.call 122 [10]),m 9 11,o 12 (.ext 9 0),o 13 (.ext 9 1),o 5 (.alloc 5 [(.bool false),.nil]),
 o 6 (.alloc 6 [(.bool false),.nil]),n (.st 2 5 12),n (.st 2 6 13)]
def r2:List AI:=[o 15 (.ld true 3 3),o 16 (.call 122 [15]),m 14 16,o 17 (.ext 14 0),o 18 (.ext 14 1),o 7 (.alloc 7 [(.bool false),.nil]),
 o 8 (.alloc 8 [(.bool false),.nil]),n (.st 2 7 17),n (.st 2 8 18)]
def r3:List AI:=[o 19 (.ld true 2 5),o 20 (.ld true 2 8),o 21 (.call 118 [19,20]),o 22 (.ld true 2 7),o 23 (.ld true 2 6),o 24 (.call 118 [22,23]),
 o 25 (.call 115 [21,24]),o 26 (.ld true 2 6),o 27 (.ld true 2 8),o 28 (.call 118 [26,27]),o 29 (.call 121 [25,28]),n (.st 3 4 29)]
def c:ACode:=(.seq (.dr (.ops r0 false) [0,1] []) (.seq (.dr (.ops r1 false) [2,9,10,11,12,13] []) (.seq (.dr (.ops r2 false) [3,14,15,16,17,18] []) (.seq (.dr (.ops r3 true) [5,6,7,8,19,20,21,22,23,24,25,26,27,28,29] []) .ret))))
end ref03_Add
def ref03_Add:AFn:=⟨2,ref03_Add.c,[.cell 4 true 3],false⟩
namespace ref03_Compare
def r0:List AI:=[o 2 (.box 2 0),o 3 (.box 3 1),o 4 (.mov (k 0))]
def r1:List AI:=[o 10 (.ld true 3 2),o 11 (.call 122 [10]),m 9 11,o 12 (.ext 9 0),o 13 (.ext 9 1),o 5 (.alloc 5 [(.bool false),.nil]),
 o 6 (.alloc 6 [(.bool false),.nil]),n (.st 2 5 12),n (.st 2 6 13)]
def r2:List AI:=[o 15 (.ld true 3 3),o 16 (.call 122 [15]),m 14 16,o 17 (.ext 14 0),o 18 (.ext 14 1),o 7 (.alloc 7 [(.bool false),.nil]),
 o 8 (.alloc 8 [(.bool false),.nil]),n (.st 2 7 17),n (.st 2 8 18)]
def r3:List AI:=[o 19 (.ld true 2 5),o 20 (.ld true 2 8),o 21 (.call 118 [19,20]),o 22 (.ld true 2 7),o 23 (.ld true 2 6),o 24 (.call 118 [22,23]),
 o 25 (.call 117 [21,24]),m 4 25]
def c:ACode:=(.seq (.dr (.ops r0 false) [0,1,4] []) (.seq (.dr (.ops r1 false) [2,9,10,11,12,13] []) (.seq (.dr (.ops r2 false) [3,14,15,16,17,18] []) (.seq (.dr (.ops r3 true) [5,6,7,8,19,20,21,22,23,24,25] []) .ret))))
end ref03_Compare
def ref03_Compare:AFn:=⟨2,ref03_Compare.c,[.tmp 4],false⟩
namespace ref03_Mul
def r0:List AI:=[o 2 (.box 2 0),o 3 (.box 3 1),o 4 (.alloc 4 [(.bool false),.nil,.nil])]
def r1:List AI:=[o 10 (.ld true 3 2),o 11 (.call 122 [10]),m 9 11,o 12 (.ext 9 0),o 13 (.ext 9 1),o 5 (.alloc 5 [(.bool false),.nil]),
 o 6 (.alloc 6 [(.bool false),.nil]),n (.st 2 5 12),n (.st 2 6 13)]
def r2:List AI:=[o 15 (.ld true 3 3),o 16 (.call 122 [15]),m 14 16,o 17 (.ext 14 0),o 18 (.ext 14 1),o 7 (.alloc 7 [(.bool false),.nil]),
 o 8 (.alloc 8 [(.bool false),.nil]),n (.st 2 7 17),n (.st 2 8 18)]
def r3:List AI:=[o 19 (.ld true 2 5),o 20 (.ld true 2 7),o 21 (.call 118 [19,20]),o 22 (.ld true 2 6),o 23 (.ld true 2 8),o 24 (.call 118 [22,23]),
 o 25 (.call 121 [21,24]),n (.st 3 4 25)]
def c:ACode:=(.seq (.dr (.ops r0 false) [0,1] []) (.seq (.dr (.ops r1 false) [2,9,10,11,12,13] []) (.seq (.dr (.ops r2 false) [3,14,15,16,17,18] []) (.seq (.dr (.ops r3 true) [5,6,7,8,19,20,21,22,23,24,25] []) .ret))))
end ref03_Mul
def ref03_Mul:AFn:=⟨2,ref03_Mul.c,[.cell 4 true 3],false⟩
namespace ref21_SameRats
def r0:List AI:=[o 4 (.mov (.c (.bool false)))]
def r1:List AI:=[m 6 0,o 7 (.len 6),m 8 1,o 9 (.len 8),o 10 (.bin .neq 7 9)]
def r2:List AI:=[o 4 (.mov (.c (.bool false)))]
def r3:List AI:=[o 5 (.mov (k 0))]
def r4:List AI:=[m 11 5,m 12 0,o 13 (.len 12),o 14 (.bin .lss 11 13)]
def r6:List AI:=[m 17 0,m 18 5,o 19 (.iadr none 3 17 18),o 20 (.ld true 3 19),m 21 1,m 22 5,o 23 (.iadr none 3 21 22),o 24 (.ld true 3 23),o 25 (.call 127 [20,24]),
 o 26 (.bin .neq 25 (k 0))]
def r7:List AI:=[o 4 (.mov (.c (.bool false)))]
def r5:List AI:=[m 15 5,o 16 (.bin .add 15 (k 1)),m 5 16]
def r8:List AI:=[o 4 (.mov (.c (.bool true)))]
def l1:ACode:=(.seq (.seq (.dr (.ops r4 false) [11,12,13] []) (.cond 14 .skip (.exit 0))) (.seq (.block 1 (.seq (.dr (.ops r6 true) [14,17,18,19,20,21,22,23,24,25] []) (.cond 26 (.seq (.dr (.ops r7 false) [0,1,5,26] []) .ret) .skip))) (.dr (.ops r5 false) [15,16,26] [])))
def c:ACode:=(.seq (.dr (.ops r0 false) [4] []) (.seq (.seq (.dr (.ops r1 false) [6,7,8,9] []) (.cond 10 (.seq (.dr (.ops r2 false) [0,1,10] []) .ret) .skip)) (.seq (.seq (.dr (.ops r3 false) [10] []) (.block 0 (.loop l1))) (.seq (.dr (.ops r8 false) [0,1,5,14] []) .ret))))
end ref21_SameRats
def ref21_SameRats:AFn:=⟨2,ref21_SameRats.c,[.tmp 4],false⟩
structure RefGLib (L:Lib):Prop where
 ref01_Trim:L 101=some F.ref01_Trim
 ref01_Compare:L 102=some F.ref01_Compare
 ref01_Add:L 103=some F.ref01_Add
 ref01_Sub:L 104=some F.ref01_Sub
 ref01_Mul:L 105=some F.ref01_Mul
 ref01_BitLen:L 106=some F.ref01_BitLen
 ref01_Shift:L 107=some F.ref01_Shift
 ref01_small:L 108=some F.ref01_small
 ref01_DivMod:L 109=some F.ref01_DivMod
 ref01_Gcd:L 110=some F.ref01_Gcd
 ref02_Trim:L 111=some F.ref02_Trim
 ref02_Of:L 112=some F.ref02_Of
 ref02_Sign:L 113=some F.ref02_Sign
 ref02_Neg:L 114=some F.ref02_Neg
 ref02_Add:L 115=some F.ref02_Add
 ref02_Sub:L 116=some F.ref02_Sub
 ref02_Compare:L 117=some F.ref02_Compare
 ref02_Mul:L 118=some F.ref02_Mul
 ref02_Div:L 119=some F.ref02_Div
 ref02_Gcd:L 120=some F.ref02_Gcd
 ref03_reduce:L 121=some F.ref03_reduce
 ref03_parts:L 122=some F.ref03_parts
 ref03_Trim:L 123=some F.ref03_Trim
 ref03_Of:L 124=some F.ref03_Of
 ref03_Frac:L 125=some F.ref03_Frac
 ref03_Add:L 126=some F.ref03_Add
 ref03_Compare:L 127=some F.ref03_Compare
 ref03_Mul:L 128=some F.ref03_Mul
 ref21_SameRats:L 129=some F.ref21_SameRats
end Go.Eng.F
namespace Go.Eng.F
open C
namespace network_Sound
def r0:List AI:=[o 1 (.box 1 0),o 2 (.mov (.c (.bool false)))]
def r1:List AI:=[o 6 (.fadr 1 0),o 7 (.ld false 1 6),o 8 (.len 7),m 3 8]
def r2:List AI:=[m 9 3,o 10 (.bin .gtr 9 (k 64)),m 11 10,g 12 11 false (.fadr 1 1),g 13 11 false (.ld false 1 12),g 14 11 false (.len 13),g 15 11 false (.mov 3),
 g 16 11 false (.bin .neq 14 15),o 17 (.pick 11 (.c (.bool true)) 16),m 18 17,g 19 18 false (.fadr 1 2),g 20 18 false (.ld false 1 19),
 g 21 18 false (.len 20),g 22 18 false (.mov 3),g 23 18 false (.bin .neq 21 22),o 24 (.pick 18 (.c (.bool true)) 23)]
def r3:List AI:=[o 2 (.mov (.c (.bool false)))]
def r4:List AI:=[o 25 (.fadr 1 0),o 26 (.ld false 1 25),o 27 (.len 26),o 28 (.mov (k 0))]
def r5:List AI:=[o 29 (.bin .lss 28 27)]
def r6:List AI:=[o 30 (.iadr none 1 26 28),o 31 (.ld false 1 30),m 5 31]
def r7:List AI:=[m 32 5,o 33 (.len 32),m 34 3,o 35 (.bin .neq 33 34)]
def r8:List AI:=[o 2 (.mov (.c (.bool false)))]
def r9:List AI:=[o 36 (.bin .add 28 (k 1)),m 28 36]
def r10:List AI:=[o 2 (.mov (.c (.bool true)))]
def l1:ACode:=(.seq (.ops r5 false) (.seq (.cond 29 .skip (.exit 0)) (.seq (.block 1 (.seq (.dr (.ops r6 false) [29,30,31] []) (.seq (.dr (.ops r7 false) [5,32,33,34] []) (.cond 35 (.seq (.dr (.ops r8 false) [3,26,27,28,35] []) .ret) .skip)))) (.dr (.ops r9 false) [35,36] []))))
def c:ACode:=(.seq (.dr (.ops r0 false) [0,2] []) (.seq (.dr (.ops r1 false) [6,7,8] []) (.seq (.seq (.dr (.ops r2 false) [9,10,11,12,13,14,15,16,17,18,19,20,21,22,23] []) (.cond 24 (.seq (.dr (.ops r3 false) [1,3,24] []) .ret) .skip)) (.seq (.seq (.dr (.ops r4 false) [1,24,25] []) (.block 0 (.loop l1))) (.seq (.dr (.ops r10 false) [3,26,27,28,29] []) .ret)))))
end network_Sound
def network_Sound:AFn:=⟨1,network_Sound.c,[.tmp 2],false⟩
namespace network_zeros
def r0:List AI:=[o 2 (.mov (.c .nil))]
def r1:List AI:=[m 5 0,o 6 (.mk 131006 3 56 [(.bool false),.nil,.nil] 5 5),m 3 6]
def r2:List AI:=[m 7 3,o 8 (.len 7),o 9 (.mov (k 0))]
def r3:List AI:=[o 10 (.bin .lss 9 8)]
def r4:List AI:=[m 11 9,m 4 11]
def r5:List AI:=[m 12 3,m 13 4,o 14 (.call 96 [(k 0)]),o 15 (.iadr none 3 12 13),n (.st 3 15 14)]
def r6:List AI:=[o 16 (.bin .add 9 (k 1)),m 9 16]
def r7:List AI:=[m 17 3,m 2 17]
def l1:ACode:=(.seq (.ops r3 false) (.seq (.cond 10 .skip (.exit 0)) (.seq (.block 1 (.seq (.dr (.ops r4 false) [10,11] []) (.dr (.ops r5 false) [4,12,13,14,15] []))) (.dr (.ops r6 false) [16] []))))
def c:ACode:=(.seq (.dr (.ops r0 false) [2] []) (.seq (.dr (.ops r1 false) [0,5,6] []) (.seq (.seq (.dr (.ops r2 false) [7] []) (.block 0 (.loop l1))) (.seq (.dr (.ops r7 false) [3,8,9,10,17] []) .ret))))
end network_zeros
def network_zeros:AFn:=⟨1,network_zeros.c,[.tmp 2],false⟩
namespace network_product
def r0:List AI:=[o 4 (.alloc 4 [(.bool false),.nil,.nil])]
def r1:List AI:=[o 8 (.call 96 [(k 0)]),o 5 (.alloc 5 [(.bool false),.nil,.nil]),n (.st 3 5 8)]
def r2:List AI:=[m 9 0,o 10 (.len 9),o 11 (.mov (k 0))]
def r3:List AI:=[o 12 (.bin .lss 11 10)]
def r4:List AI:=[m 13 11,o 14 (.iadr none 3 9 11),o 15 (.ld true 3 14),o 7 (.alloc 7 [(.bool false),.nil,.nil]),m 6 13,n (.st 3 7 15)]
def r5:List AI:=[o 16 (.ld true 3 7),o 17 (.call 97 [16]),o 18 (.bin .neq 17 (k 0)),m 19 18,g 20 19 true (.mov 1),g 21 19 true (.mov 6),g 22 19 true (.iadr none 3 20 21),
 g 23 19 true (.ld true 3 22),g 24 19 true (.call 97 [23]),g 25 19 true (.bin .neq 24 (k 0)),o 26 (.pick 19 25 (.c (.bool false)))]
def r6:List AI:=[o 27 (.ld true 3 5),o 28 (.ld true 3 7),m 29 1,m 30 6,o 31 (.iadr none 3 29 30),o 32 (.ld true 3 31),o 33 (.call 99 [28,32]),o 34 (.call 98 [27,33]),
 n (.st 3 5 34)]
def r7:List AI:=[o 35 (.bin .add 11 (k 1)),m 11 35]
def r8:List AI:=[o 36 (.ld true 3 5),n (.st 3 4 36)]
def l1:ACode:=(.seq (.ops r3 false) (.seq (.cond 12 .skip (.exit 0)) (.seq (.block 1 (.seq (.dr (.ops r4 false) [12,13,14,15] []) (.seq (.dr (.ops r5 false) [16,17,18,19,20,21,22,23,24,25] []) (.cond 26 (.dr (.ops r6 true) [6,7,26,27,28,29,30,31,32,33,34] []) .skip)))) (.dr (.ops r7 false) [6,7,26,35] []))))
def c:ACode:=(.seq (.ops r0 false) (.seq (.dr (.ops r1 false) [8] []) (.seq (.seq (.dr (.ops r2 false) [0] []) (.block 0 (.loop l1))) (.seq (.dr (.ops r8 false) [1,5,9,10,11,12,36] []) .ret))))
end network_product
def network_product:AFn:=⟨2,network_product.c,[.cell 4 true 3],false⟩
structure SysGLib (L:Lib):Prop extends RatGLib L,RefGLib L where
 network_Sound:L 130=some F.network_Sound
 network_zeros:L 131=some F.network_zeros
 network_product:L 132=some F.network_product
end Go.Eng.F

namespace Go.Eng.F
open C
namespace network_zero
def r0:List AI:=[o 2 (.alloc 145002 [.nil,.nil,.nil,(.bool false),.nil,.nil])]
def r1:List AI:=[m 5 0,o 6 (.mk 145006 1 24 [.nil] 5 5),m 7 0,⟨some 8,.callr 145008 131 [7],none,[145006,145003]⟩,m 9 0,
 ⟨some 10,.callr 145010 131 [9],none,[145006,145003]⟩,⟨some 11,.call 96 [(k 0)],none,[145006,145003]⟩,
 o 12 (.build [.nil,.nil,.nil,(.bool false),.nil,.nil] [(0,1,6),(1,1,8),(2,1,10),(3,3,11)]),
 o 3 (.alloc 145003 [.nil,.nil,.nil,(.bool false),.nil,.nil]),n (.st 6 3 12)]
def r2:List AI:=[o 13 (.fadr 3 0),o 14 (.ld false 1 13),o 15 (.len 14),o 16 (.mov (k 0))]
def r3:List AI:=[o 17 (.bin .lss 16 15)]
def r4:List AI:=[m 18 16,m 4 18]
def r5:List AI:=[o 19 (.fadr 3 0),⟨some 20,.ld false 1 19,none,[145023]⟩,m 21 4,m 22 0,o 23 (.callr 145023 131 [22]),o 24 (.iadr none 1 20 21),n (.st 1 24 23)]
def r6:List AI:=[o 25 (.bin .add 16 (k 1)),m 16 25]
def r7:List AI:=[o 26 (.ld true 6 3),n (.st 6 2 26)]
def l1:ACode:=(.seq (.ops r3 false) (.seq (.cond 17 .skip (.exit 0)) (.seq (.block 1 (.seq (.dr (.ops r4 false) [17,18] []) (.dr (.ops r5 true) [4,19,20,21,22,23,24] []))) (.dr (.ops r6 false) [25] []))))
def c:ACode:=(.seq (.ops r0 false) (.seq (.dr (.ops r1 true) [5,6,7,8,9,10,11,12] []) (.seq (.seq (.dr (.ops r2 false) [13,14] []) (.block 0 (.loop l1))) (.seq (.dr (.ops r7 false) [0,3,15,16,17,26] []) .ret))))
end network_zero
def network_zero:AFn:=⟨1,network_zero.c,[.cell 2 true 6],false⟩
structure LinGLib (L:Lib):Prop extends SysGLib L,NetLib L where
 network_zero:L 145=some F.network_zero
end Go.Eng.F

namespace Go.Eng.F
open C
namespace rational_flip
def r0:List AI:=[o 1 (.box 1 0),o 2 (.alloc 2 [(.bool false),.nil,.nil])]
def r1:List AI:=[o 3 (.fadr 1 0),o 4 (.fadr 3 0),o 5 (.ld false 1 4),o 6 (.un .not 5),o 7 (.fadr 1 0),o 8 (.fadr 7 1),o 9 (.ld false 1 8),
 o 10 (.build [(.bool false),.nil] [(0,1,6),(1,1,9)]),o 11 (.fadr 1 2),o 12 (.ld false 1 11),
 o 13 (.build [(.bool false),.nil,.nil] [(0,2,10),(2,1,12)]),n (.st 3 2 13)]
def c:ACode:=(.seq (.dr (.ops r0 false) [0] []) (.seq (.dr (.ops r1 false) [1,3,4,5,6,7,8,9,10,11,12,13] []) .ret))
end rational_flip
def rational_flip:AFn:=⟨1,rational_flip.c,[.cell 2 true 3],false⟩
namespace rational_Sub
def r0:List AI:=[o 2 (.box 2 0),o 3 (.box 3 1),o 4 (.alloc 4 [(.bool false),.nil,.nil])]
def r1:List AI:=[o 5 (.ld true 3 2),o 6 (.ld true 3 3),o 7 (.callq 149 [6]),o 8 (.call 98 [5,7]),n (.st 3 4 8)]
def c:ACode:=(.seq (.dr (.ops r0 false) [0,1] []) (.seq (.dr (.ops r1 true) [2,3,5,6,7,8] []) .ret))
end rational_Sub
def rational_Sub:AFn:=⟨2,rational_Sub.c,[.cell 4 true 3],false⟩
namespace rational_Frac
def r0:List AI:=[o 4 (.alloc 4 [(.bool false),.nil,.nil])]
def r1:List AI:=[m 5 1,o 6 (.bin .eql 5 (k 0))]
def r2:List AI:=[o 7 (.call 96 [(k 0)]),n (.st 3 4 7)]
def r3:List AI:=[m 8 0,o 9 (.call 85 [8]),m 10 1,o 11 (.call 85 [10]),o 12 (.calli 93 [9,11]),o 13 (.call 94 [12]),n (.st 3 4 13)]
def c:ACode:=(.seq (.ops r0 false) (.seq (.seq (.dr (.ops r1 false) [5] []) (.cond 6 (.seq (.dr (.ops r2 false) [0,1,6,7] []) .ret) .skip)) (.seq (.dr (.ops r3 false) [0,1,6,8,9,10,11,12,13] []) .ret)))
end rational_Frac
def rational_Frac:AFn:=⟨2,rational_Frac.c,[.cell 4 true 3],false⟩
structure RatHLib (L:Lib):Prop extends RatGLib L where
 rational_flip:L 149=some F.rational_flip
 rational_Sub:L 150=some F.rational_Sub
 rational_Frac:L 151=some F.rational_Frac
end Go.Eng.F

namespace Go.Eng.F
open C
namespace ref03_Neg
def r0:List AI:=[o 1 (.box 1 0),o 2 (.alloc 2 [(.bool false),.nil,.nil])]
def r1:List AI:=[o 3 (.ld true 3 1),o 4 (.call 123 [3]),n (.st 3 1 4)]
def r2:List AI:=[o 5 (.fadr 1 0),o 6 (.ld true 2 5),o 7 (.call 114 [6]),o 8 (.fadr 1 0),n (.st 2 8 7)]
def r3:List AI:=[o 9 (.ld true 3 1),n (.st 3 2 9)]
def c:ACode:=(.seq (.dr (.ops r0 false) [0] []) (.seq (.dr (.ops r1 false) [3,4] []) (.seq (.dr (.ops r2 false) [5,6,7,8] []) (.seq (.dr (.ops r3 false) [1,9] []) .ret))))
end ref03_Neg
def ref03_Neg:AFn:=⟨1,ref03_Neg.c,[.cell 2 true 3],false⟩
namespace ref03_Sub
def r0:List AI:=[o 2 (.box 2 0),o 3 (.box 3 1),o 4 (.alloc 4 [(.bool false),.nil,.nil])]
def r1:List AI:=[o 5 (.ld true 3 2),o 6 (.ld true 3 3),o 7 (.call 152 [6]),o 8 (.call 126 [5,7]),n (.st 3 4 8)]
def c:ACode:=(.seq (.dr (.ops r0 false) [0,1] []) (.seq (.dr (.ops r1 true) [2,3,5,6,7,8] []) .ret))
end ref03_Sub
def ref03_Sub:AFn:=⟨2,ref03_Sub.c,[.cell 4 true 3],false⟩
namespace ref03_Sign
def r0:List AI:=[o 1 (.box 1 0),o 2 (.mov (k 0))]
def r1:List AI:=[o 6 (.ld true 3 1),o 7 (.call 122 [6]),m 5 7,o 8 (.ext 5 0),o 9 (.ext 5 1),o 3 (.alloc 3 [(.bool false),.nil]),o 4 (.alloc 4 [(.bool false),.nil]),
 n (.st 2 3 8),n (.st 2 4 9)]
def r2:List AI:=[o 10 (.ld true 2 3),o 11 (.call 113 [10]),m 2 11]
def c:ACode:=(.seq (.dr (.ops r0 false) [0,2] []) (.seq (.dr (.ops r1 false) [1,4,5,6,7,8,9] []) (.seq (.dr (.ops r2 false) [3,10,11] []) .ret)))
end ref03_Sign
def ref03_Sign:AFn:=⟨1,ref03_Sign.c,[.tmp 2],false⟩
namespace ref01_Same
def r0:List AI:=[o 4 (.mov (.c (.bool false)))]
def r1:List AI:=[m 6 0,o 7 (.len 6),m 8 1,o 9 (.len 8),o 10 (.bin .neq 7 9)]
def r2:List AI:=[o 4 (.mov (.c (.bool false)))]
def r3:List AI:=[o 5 (.mov (k 0))]
def r4:List AI:=[m 11 5,m 12 0,o 13 (.len 12),o 14 (.bin .lss 11 13)]
def r6:List AI:=[m 17 0,m 18 5,o 19 (.iadr none 1 17 18),o 20 (.ld false 1 19),m 21 1,m 22 5,o 23 (.iadr none 1 21 22),o 24 (.ld false 1 23),o 25 (.bin .neq 20 24)]
def r7:List AI:=[o 4 (.mov (.c (.bool false)))]
def r5:List AI:=[m 15 5,o 16 (.bin .add 15 (k 1)),m 5 16]
def r8:List AI:=[o 4 (.mov (.c (.bool true)))]
def l1:ACode:=(.seq (.seq (.dr (.ops r4 false) [11,12,13] []) (.cond 14 .skip (.exit 0))) (.seq (.block 1 (.seq (.dr (.ops r6 true) [14,17,18,19,20,21,22,23,24] []) (.cond 25 (.seq (.dr (.ops r7 false) [0,1,5,25] []) .ret) .skip))) (.dr (.ops r5 false) [15,16,25] [])))
def c:ACode:=(.seq (.dr (.ops r0 false) [4] []) (.seq (.seq (.dr (.ops r1 false) [6,7,8,9] []) (.cond 10 (.seq (.dr (.ops r2 false) [0,1,10] []) .ret) .skip)) (.seq (.seq (.dr (.ops r3 false) [10] []) (.block 0 (.loop l1))) (.seq (.dr (.ops r8 false) [0,1,5,14] []) .ret))))
end ref01_Same
def ref01_Same:AFn:=⟨2,ref01_Same.c,[.tmp 4],false⟩
namespace ref02_Same
def r0:List AI:=[o 2 (.box 2 0),o 3 (.box 3 1),o 4 (.mov (.c (.bool false)))]
def r1:List AI:=[o 5 (.fadr 2 0),o 6 (.ld false 1 5),o 7 (.fadr 3 0),o 8 (.ld false 1 7),o 9 (.beq false 6 8),m 10 9,g 11 10 true (.fadr 2 1),
 g 12 10 true (.ld false 1 11),g 13 10 true (.fadr 3 1),g 14 10 true (.ld false 1 13),g 15 10 true (.call 156 [12,14]),
 o 16 (.pick 10 15 (.c (.bool false))),m 4 16]
def c:ACode:=(.seq (.dr (.ops r0 false) [0,1,4] []) (.seq (.dr (.ops r1 false) [2,3,5,6,7,8,9,10,11,12,13,14,15,16] []) .ret))
end ref02_Same
def ref02_Same:AFn:=⟨2,ref02_Same.c,[.tmp 4],false⟩
namespace ref03_Same
def r0:List AI:=[o 2 (.box 2 0),o 3 (.box 3 1),o 4 (.mov (.c (.bool false)))]
def r1:List AI:=[o 5 (.fadr 2 0),o 6 (.ld true 2 5),o 7 (.fadr 3 0),o 8 (.ld true 2 7),o 9 (.call 157 [6,8]),m 10 9,g 11 10 true (.fadr 2 2),
 g 12 10 true (.ld false 1 11),g 13 10 true (.fadr 3 2),g 14 10 true (.ld false 1 13),g 15 10 true (.call 156 [12,14]),
 o 16 (.pick 10 15 (.c (.bool false))),m 4 16]
def c:ACode:=(.seq (.dr (.ops r0 false) [0,1,4] []) (.seq (.dr (.ops r1 false) [2,3,5,6,7,8,9,10,11,12,13,14,15,16] []) .ret))
end ref03_Same
def ref03_Same:AFn:=⟨2,ref03_Same.c,[.tmp 4],false⟩
namespace ref03_SameList
def r0:List AI:=[o 4 (.mov (.c (.bool false)))]
def r1:List AI:=[m 6 0,o 7 (.len 6),m 8 1,o 9 (.len 8),o 10 (.bin .neq 7 9)]
def r2:List AI:=[o 4 (.mov (.c (.bool false)))]
def r3:List AI:=[o 5 (.mov (k 0))]
def r4:List AI:=[m 11 5,m 12 0,o 13 (.len 12),o 14 (.bin .lss 11 13)]
def r6:List AI:=[m 17 0,m 18 5,o 19 (.iadr none 3 17 18),o 20 (.ld true 3 19),m 21 1,m 22 5,o 23 (.iadr none 3 21 22),o 24 (.ld true 3 23),o 25 (.call 158 [20,24]),
 o 26 (.un .not 25)]
def r7:List AI:=[o 4 (.mov (.c (.bool false)))]
def r5:List AI:=[m 15 5,o 16 (.bin .add 15 (k 1)),m 5 16]
def r8:List AI:=[o 4 (.mov (.c (.bool true)))]
def l1:ACode:=(.seq (.seq (.dr (.ops r4 false) [11,12,13] []) (.cond 14 .skip (.exit 0))) (.seq (.block 1 (.seq (.dr (.ops r6 true) [14,17,18,19,20,21,22,23,24,25] []) (.cond 26 (.seq (.dr (.ops r7 false) [0,1,5,26] []) .ret) .skip))) (.dr (.ops r5 false) [15,16,26] [])))
def c:ACode:=(.seq (.dr (.ops r0 false) [4] []) (.seq (.seq (.dr (.ops r1 false) [6,7,8,9] []) (.cond 10 (.seq (.dr (.ops r2 false) [0,1,10] []) .ret) .skip)) (.seq (.seq (.dr (.ops r3 false) [10] []) (.block 0 (.loop l1))) (.seq (.dr (.ops r8 false) [0,1,5,14] []) .ret))))
end ref03_SameList
def ref03_SameList:AFn:=⟨2,ref03_SameList.c,[.tmp 4],false⟩
structure RefHLib (L:Lib):Prop extends RefGLib L where
 ref03_Neg:L 152=some F.ref03_Neg
 ref03_Sub:L 153=some F.ref03_Sub
 ref03_Sign:L 155=some F.ref03_Sign
 ref01_Same:L 156=some F.ref01_Same
 ref02_Same:L 157=some F.ref02_Same
 ref03_Same:L 158=some F.ref03_Same
 ref03_SameList:L 159=some F.ref03_SameList
end Go.Eng.F

namespace Go.Eng.F
open C
namespace poly_cut
def r0:List AI:=[o 2 (.mov (.c .nil))]
def r1:List AI:=[m 4 0,o 5 (.len 4),m 3 5]
def r2:List AI:=[m 6 3,o 7 (.bin .gtr 6 (k 0)),m 8 7,g 9 8 true (.mov 0),g 10 8 true (.mov 3),g 11 8 true (.bin .sub 10 (k 1)),g 12 8 true (.iadr none 3 9 11),
 g 13 8 true (.ld true 3 12),g 14 8 true (.call 97 [13]),g 15 8 true (.bin .eql 14 (k 0)),o 16 (.pick 8 15 (.c (.bool false)))]
def r3:List AI:=[m 17 3,o 18 (.bin .sub 17 (k 1)),m 3 18]
def r4:List AI:=[m 19 0,m 20 3,o 21 (.slc 3 19 none (some 20)),m 2 21]
def l1:ACode:=(.seq (.seq (.dr (.ops r2 false) [6,7,8,9,10,11,12,13,14,15] []) (.cond 16 .skip (.exit 0))) (.block 1 (.dr (.ops r3 false) [16,17,18] [])))
def c:ACode:=(.seq (.dr (.ops r0 false) [2] []) (.seq (.dr (.ops r1 false) [4,5] []) (.seq (.block 0 (.loop l1)) (.seq (.dr (.ops r4 false) [0,3,16,19,20,21] []) .ret))))
end poly_cut
def poly_cut:AFn:=⟨1,poly_cut.c,[.tmp 2],false⟩
namespace poly_Trim
def r0:List AI:=[o 2 (.mov (.c .nil))]
def r1:List AI:=[m 5 0,o 6 (.calli 169 [5]),o 7 (.len 6),o 8 (.mk 170008 3 56 [(.bool false),.nil,.nil] 7 7),m 3 8]
def r2:List AI:=[m 9 3,o 10 (.len 9),o 11 (.mov (k 0))]
def r3:List AI:=[o 12 (.bin .lss 11 10)]
def r4:List AI:=[m 13 11,m 4 13]
def r5:List AI:=[m 14 3,m 15 4,m 16 0,m 17 4,o 18 (.iadr none 3 16 17),o 19 (.ld true 3 18),o 20 (.call 95 [19]),o 21 (.iadr none 3 14 15),n (.st 3 21 20)]
def r6:List AI:=[o 22 (.bin .add 11 (k 1)),m 11 22]
def r7:List AI:=[m 23 3,m 2 23]
def l1:ACode:=(.seq (.ops r3 false) (.seq (.cond 12 .skip (.exit 0)) (.seq (.block 1 (.seq (.dr (.ops r4 false) [12,13] []) (.dr (.ops r5 false) [4,14,15,16,17,18,19,20,21] []))) (.dr (.ops r6 false) [22] []))))
def c:ACode:=(.seq (.dr (.ops r0 false) [2] []) (.seq (.dr (.ops r1 false) [5,6,7,8] []) (.seq (.seq (.dr (.ops r2 false) [9] []) (.block 0 (.loop l1))) (.seq (.dr (.ops r7 false) [0,3,10,11,12,23] []) .ret))))
end poly_Trim
def poly_Trim:AFn:=⟨1,poly_Trim.c,[.tmp 2],false⟩
structure PolyGLib (L:Lib):Prop extends RatGLib L where
 poly_cut:L 169=some F.poly_cut
 poly_Trim:L 170=some F.poly_Trim
end Go.Eng.F

namespace Go.Eng.F
open C
namespace ref05_Trim
def r0:List AI:=[o 2 (.mov (.c .nil))]
def r1:List AI:=[m 7 0,o 8 (.len 7),m 3 8]
def r2:List AI:=[m 9 3,o 10 (.bin .gtr 9 (k 0)),m 11 10,g 12 11 true (.mov 0),g 13 11 true (.mov 3),g 14 11 true (.bin .sub 13 (k 1)),g 15 11 true (.iadr none 3 12 14),
 g 16 11 true (.ld true 3 15),g 17 11 true (.call 155 [16]),g 18 11 true (.bin .eql 17 (k 0)),o 19 (.pick 11 18 (.c (.bool false)))]
def r3:List AI:=[m 20 3,o 21 (.bin .sub 20 (k 1)),m 3 21]
def r4:List AI:=[o 4 (.vrow 171004 3)]
def r5:List AI:=[m 22 0,m 23 3,o 24 (.slc 3 22 none (some 23)),o 25 (.len 24),o 26 (.mov (k 0))]
def r6:List AI:=[o 27 (.bin .lss 26 25)]
def r7:List AI:=[o 28 (.iadr none 3 24 26),o 29 (.ld true 3 28),o 6 (.alloc 171006 [(.bool false),.nil,.nil]),n (.st 3 6 29)]
def r8:List AI:=[m 30 4,o 31 (.ld true 3 6),o 32 (.call 123 [31]),o 33 (.bslice 171033 3 [32]),o 34 (.app 171034 3 56 30 33),m 4 34]
def r9:List AI:=[o 35 (.bin .add 26 (k 1)),m 26 35]
def r10:List AI:=[m 36 4,m 2 36]
def l1:ACode:=(.seq (.seq (.dr (.ops r2 false) [9,10,11,12,13,14,15,16,17,18] []) (.cond 19 .skip (.exit 0))) (.block 1 (.dr (.ops r3 false) [19,20,21] [])))
def l2:ACode:=(.seq (.ops r6 false) (.seq (.cond 27 .skip (.exit 2)) (.seq (.block 3 (.seq (.dr (.ops r7 false) [27,28,29] []) (.dr (.ops r8 false) [6,30,31,32,33,34] []))) (.dr (.ops r9 false) [35] []))))
def c:ACode:=(.seq (.dr (.ops r0 false) [2] []) (.seq (.dr (.ops r1 false) [7,8] []) (.seq (.block 0 (.loop l1)) (.seq (.dr (.ops r4 false) [19] []) (.seq (.seq (.dr (.ops r5 false) [0,3,22,23] []) (.block 2 (.loop l2))) (.seq (.dr (.ops r10 false) [4,24,25,26,27,36] []) .ret))))))
end ref05_Trim
def ref05_Trim:AFn:=⟨1,ref05_Trim.c,[.tmp 2],false⟩
namespace ref05_Equal
def r0:List AI:=[o 4 (.mov (.c (.bool false)))]
def r1:List AI:=[m 5 0,m 6 1,o 7 (.call 159 [5,6]),m 4 7]
def c:ACode:=(.seq (.dr (.ops r0 false) [4] []) (.seq (.dr (.ops r1 false) [0,1,5,6,7] []) .ret))
end ref05_Equal
def ref05_Equal:AFn:=⟨2,ref05_Equal.c,[.tmp 4],false⟩
namespace ref05_Same
def r0:List AI:=[o 4 (.mov (.c (.bool false)))]
def r1:List AI:=[m 5 0,o 6 (.call 171 [5]),m 7 1,o 8 (.call 171 [7]),o 9 (.call 172 [6,8]),m 4 9]
def c:ACode:=(.seq (.dr (.ops r0 false) [4] []) (.seq (.dr (.ops r1 false) [0,1,5,6,7,8,9] []) .ret))
end ref05_Same
def ref05_Same:AFn:=⟨2,ref05_Same.c,[.tmp 4],false⟩
structure R05GLib (L:Lib):Prop extends RefHLib L where
 ref05_Trim:L 171=some F.ref05_Trim
 ref05_Equal:L 172=some F.ref05_Equal
 ref05_Same:L 173=some F.ref05_Same
end Go.Eng.F

namespace Go.Eng.F
open C
namespace network_times
def r0:List AI:=[o 4 (.mov (.c .nil))]
def r1:List AI:=[m 11 0,o 12 (.len 11),o 13 (.mk 188013 1 24 [.nil] 12 12),m 5 13]
def r2:List AI:=[m 14 0,o 15 (.len 14),o 16 (.mk 188016 3 56 [(.bool false),.nil,.nil] 15 15),m 6 16]
def r3:List AI:=[m 17 0,o 18 (.len 17),o 19 (.mov (k 0))]
def r4:List AI:=[o 20 (.bin .lss 19 18)]
def r5:List AI:=[m 21 19,m 7 21]
def r6:List AI:=[m 22 5,m 23 7,m 24 0,o 25 (.len 24),o 26 (.mk 188026 3 56 [(.bool false),.nil,.nil] 25 25),o 27 (.iadr none 1 22 23),n (.st 1 27 26)]
def r7:List AI:=[o 28 (.bin .add 19 (k 1)),m 19 28]
def r8:List AI:=[m 29 0,o 30 (.len 29),o 31 (.mov (k 0))]
def r9:List AI:=[o 32 (.bin .lss 31 30)]
def r10:List AI:=[m 33 31,m 8 33]
def r11:List AI:=[m 34 0,o 35 (.len 34),o 36 (.mov (k 0))]
def r12:List AI:=[o 37 (.bin .lss 36 35)]
def r13:List AI:=[m 38 36,m 9 38]
def r14:List AI:=[m 39 6,m 40 9,m 41 1,m 42 9,o 43 (.iadr none 1 41 42),o 44 (.ld false 1 43),m 45 8,o 46 (.iadr none 3 44 45),o 47 (.ld true 3 46),
 o 48 (.iadr none 3 39 40),n (.st 3 48 47)]
def r15:List AI:=[o 49 (.bin .add 36 (k 1)),m 36 49]
def r16:List AI:=[m 50 0,o 51 (.len 50),o 52 (.mov (k 0))]
def r17:List AI:=[o 53 (.bin .lss 52 51)]
def r18:List AI:=[m 54 52,m 10 54]
def r19:List AI:=[m 55 5,m 56 10,o 57 (.iadr none 1 55 56),o 58 (.ld false 1 57),m 59 8,m 60 0,m 61 10,o 62 (.iadr none 1 60 61),o 63 (.ld false 1 62),m 64 6,
 o 65 (.call 132 [63,64]),o 66 (.iadr none 3 58 59),n (.st 3 66 65)]
def r20:List AI:=[o 67 (.bin .add 52 (k 1)),m 52 67]
def r21:List AI:=[o 68 (.bin .add 31 (k 1)),m 31 68]
def r22:List AI:=[m 69 5,m 4 69]
def l1:ACode:=(.seq (.ops r4 false) (.seq (.cond 20 .skip (.exit 0)) (.seq (.block 1 (.seq (.dr (.ops r5 false) [20,21] []) (.dr (.ops r6 false) [7,22,23,24,25,26,27] []))) (.dr (.ops r7 false) [28] []))))
def l3:ACode:=(.seq (.ops r12 false) (.seq (.cond 37 .skip (.exit 4)) (.seq (.block 5 (.seq (.dr (.ops r13 false) [37,38] []) (.dr (.ops r14 false) [9,39,40,41,42,43,44,45,46,47,48] []))) (.dr (.ops r15 false) [49] []))))
def l4:ACode:=(.seq (.ops r17 false) (.seq (.cond 53 .skip (.exit 6)) (.seq (.block 7 (.seq (.dr (.ops r18 false) [53,54] []) (.dr (.ops r19 true) [10,55,56,57,58,59,60,61,62,63,64,65,66] []))) (.dr (.ops r20 false) [67] []))))
def l2:ACode:=(.seq (.ops r9 false) (.seq (.cond 32 .skip (.exit 2)) (.seq (.block 3 (.seq (.dr (.ops r10 false) [32,33] []) (.seq (.seq (.dr (.ops r11 false) [34] []) (.block 4 (.loop l3))) (.seq (.dr (.ops r16 false) [35,36,37,50] []) (.block 6 (.loop l4)))))) (.dr (.ops r21 false) [8,51,52,53,68] []))))
def c:ACode:=(.seq (.dr (.ops r0 false) [4] []) (.seq (.dr (.ops r1 false) [11,12,13] []) (.seq (.dr (.ops r2 false) [14,15,16] []) (.seq (.seq (.dr (.ops r3 false) [17] []) (.block 0 (.loop l1))) (.seq (.seq (.dr (.ops r8 false) [18,19,20,29] []) (.block 2 (.loop l2))) (.seq (.dr (.ops r22 false) [0,1,5,6,30,31,32,69] []) .ret))))))
end network_times
def network_times:AFn:=⟨2,network_times.c,[.tmp 4],false⟩
namespace network_Transfer
def r0:List AI:=[o 1 (.box 1 0),o 2 (.alloc 2 [.nil,.nil]),o 3 (.mov (k 0))]
def r1:List AI:=[o 16 (.ld true 6 1),o 17 (.call 130 [16]),o 18 (.un .not 17)]
def r2:List AI:=[o 19 (.build [.nil,.nil] []),n (.st 2 2 19),o 3 (.mov (k 2))]
def r3:List AI:=[o 20 (.fadr 1 0),o 21 (.ld false 1 20),o 22 (.len 21),m 4 22]
def r4:List AI:=[m 23 4,o 24 (.bin .gtr 23 (k 16))]
def r5:List AI:=[o 25 (.build [.nil,.nil] []),n (.st 2 2 25),o 3 (.mov (k 12))]
def r6:List AI:=[o 26 (.call 96 [(k 1)]),o 27 (.bslice 27 3 [26]),m 5 27]
def r7:List AI:=[o 28 (.call 96 [(k 0)]),o 29 (.bslice 29 3 [28]),m 6 29]
def r8:List AI:=[m 30 4,o 31 (.calli 145 [30]),o 32 (.fld 31 0 1 false),m 7 32]
def r9:List AI:=[m 33 4,o 34 (.mov (k 0))]
def r10:List AI:=[o 35 (.bin .lss 34 33)]
def r11:List AI:=[m 36 34,m 8 36]
def r12:List AI:=[m 37 7,m 38 8,o 39 (.iadr none 1 37 38),o 40 (.ld false 1 39),m 41 8,o 42 (.call 96 [(k 1)]),o 43 (.iadr none 3 40 41),n (.st 3 43 42)]
def r13:List AI:=[o 44 (.bin .add 34 (k 1)),m 34 44]
def r14:List AI:=[o 9 (.mov (k 1))]
def r15:List AI:=[m 45 9,m 46 4,o 47 (.bin .leq 45 46)]
def r17:List AI:=[m 50 4,o 51 (.mk 51 3 56 [(.bool false),.nil,.nil] 50 50),m 10 51]
def r18:List AI:=[m 52 4,o 53 (.mov (k 0))]
def r19:List AI:=[o 54 (.bin .lss 53 52)]
def r20:List AI:=[m 55 53,m 11 55]
def r21:List AI:=[m 56 10,m 57 11,m 58 7,m 59 11,o 60 (.iadr none 1 58 59),o 61 (.ld false 1 60),o 62 (.fadr 1 1),o 63 (.ld false 1 62),o 64 (.call 132 [61,63]),
 o 65 (.iadr none 3 56 57),n (.st 3 65 64)]
def r22:List AI:=[o 66 (.bin .add 53 (k 1)),m 53 66]
def r23:List AI:=[m 67 6,o 68 (.fadr 1 2),o 69 (.ld false 1 68),m 70 10,o 71 (.call 132 [69,70]),o 72 (.bslice 72 3 [71]),o 73 (.app 73 3 56 67 72),m 6 73]
def r24:List AI:=[o 74 (.fadr 1 0),o 75 (.ld false 1 74),m 76 7,o 77 (.calli 188 [75,76]),m 7 77]
def r25:List AI:=[o 78 (.call 96 [(k 0)]),o 12 (.alloc 12 [(.bool false),.nil,.nil]),n (.st 3 12 78)]
def r26:List AI:=[m 79 4,o 80 (.mov (k 0))]
def r27:List AI:=[o 81 (.bin .lss 80 79)]
def r28:List AI:=[m 82 80,m 13 82]
def r29:List AI:=[o 83 (.ld true 3 12),m 84 7,m 85 13,o 86 (.iadr none 1 84 85),o 87 (.ld false 1 86),m 88 13,o 89 (.iadr none 3 87 88),o 90 (.ld true 3 89),
 o 91 (.call 98 [83,90]),n (.st 3 12 91)]
def r30:List AI:=[o 92 (.bin .add 80 (k 1)),m 80 92]
def r31:List AI:=[⟨some 93,.ld true 3 12,none,[14]⟩,m 94 9,⟨some 95,.call 151 [(k (-1)),94],none,[14]⟩,⟨some 96,.call 99 [93,95],none,[14]⟩,
 o 14 (.alloc 14 [(.bool false),.nil,.nil]),n (.st 3 14 96)]
def r32:List AI:=[m 97 4,o 98 (.mov (k 0))]
def r33:List AI:=[o 99 (.bin .lss 98 97)]
def r34:List AI:=[m 100 98,m 15 100]
def r35:List AI:=[m 101 7,m 102 15,o 103 (.iadr none 1 101 102),o 104 (.ld false 1 103),m 105 15,m 106 7,m 107 15,o 108 (.iadr none 1 106 107),o 109 (.ld false 1 108),
 m 110 15,o 111 (.iadr none 3 109 110),o 112 (.ld true 3 111),o 113 (.ld true 3 14),o 114 (.call 98 [112,113]),o 115 (.iadr none 3 104 105),
 n (.st 3 115 114)]
def r36:List AI:=[o 116 (.bin .add 98 (k 1)),m 98 116]
def r37:List AI:=[m 117 5,o 118 (.ld true 3 14),o 119 (.bslice 119 3 [118]),o 120 (.app 120 3 56 117 119),m 5 120]
def r16:List AI:=[m 48 9,o 49 (.bin .add 48 (k 1)),m 9 49]
def r38:List AI:=[m 121 6,m 122 5,o 123 (.fadr 1 3),o 124 (.ld true 3 123),o 125 (.call 190 [122,124]),o 126 (.call 191 [121,125]),m 127 5,o 128 (.call 170 [127]),
 o 129 (.build [.nil,.nil] [(0,1,126),(1,1,128)]),n (.st 2 2 129),o 3 (.mov (k 0))]
def l1:ACode:=(.seq (.ops r10 false) (.seq (.cond 35 .skip (.exit 0)) (.seq (.block 1 (.seq (.dr (.ops r11 false) [35,36] []) (.dr (.ops r12 true) [8,37,38,39,40,41,42,43] []))) (.dr (.ops r13 false) [44] []))))
def l3:ACode:=(.seq (.ops r19 false) (.seq (.cond 54 .skip (.exit 4)) (.seq (.block 5 (.seq (.dr (.ops r20 false) [54,55] []) (.dr (.ops r21 true) [11,56,57,58,59,60,61,62,63,64,65] []))) (.dr (.ops r22 false) [66] []))))
def l4:ACode:=(.seq (.ops r27 false) (.seq (.cond 81 .skip (.exit 6)) (.seq (.block 7 (.seq (.dr (.ops r28 false) [81,82] []) (.dr (.ops r29 true) [13,83,84,85,86,87,88,89,90,91] []))) (.dr (.ops r30 false) [92] []))))
def l5:ACode:=(.seq (.ops r33 false) (.seq (.cond 99 .skip (.exit 8)) (.seq (.block 9 (.seq (.dr (.ops r34 false) [99,100] []) (.dr (.ops r35 true) [15,101,102,103,104,105,106,107,108,109,110,111,112,113,114,115] []))) (.dr (.ops r36 false) [116] []))))
def l2:ACode:=(.seq (.seq (.dr (.ops r15 false) [45,46] []) (.cond 47 .skip (.exit 2))) (.seq (.block 3 (.seq (.dr (.ops r17 false) [47,50,51] []) (.seq (.seq (.ops r18 false) (.block 4 (.loop l3))) (.seq (.dr (.ops r23 false) [10,52,53,54,67,68,69,70,71,72,73] []) (.seq (.dr (.ops r24 false) [74,75,76,77] []) (.seq (.dr (.ops r25 false) [78] []) (.seq (.seq (.ops r26 false) (.block 6 (.loop l4))) (.seq (.dr (.ops r31 true) [12,79,80,81,93,94,95,96] []) (.seq (.seq (.ops r32 false) (.block 8 (.loop l5))) (.dr (.ops r37 false) [14,97,98,99,117,118,119,120] [])))))))))) (.dr (.ops r16 false) [48,49] [])))
def c:ACode:=(.seq (.dr (.ops r0 false) [0,3] []) (.seq (.seq (.dr (.ops r1 false) [16,17] []) (.cond 18 (.seq (.dr (.ops r2 false) [1,18,19] []) .ret) .skip)) (.seq (.dr (.ops r3 false) [18,20,21,22] []) (.seq (.seq (.dr (.ops r4 false) [23] []) (.cond 24 (.seq (.dr (.ops r5 false) [1,4,24,25] []) .ret) .skip)) (.seq (.dr (.ops r6 false) [24,26,27] []) (.seq (.dr (.ops r7 false) [28,29] []) (.seq (.dr (.ops r8 false) [30,31,32] []) (.seq (.seq (.ops r9 false) (.block 0 (.loop l1))) (.seq (.seq (.dr (.ops r14 false) [33,34,35] []) (.block 2 (.loop l2))) (.seq (.dr (.ops r38 false) [1,4,5,6,7,9,47,121,122,123,124,125,126,127,128,129] []) .ret))))))))))
end network_Transfer
def network_Transfer:AFn:=⟨1,network_Transfer.c,[.cell 2 true 2,.tmp 3],false⟩
namespace poly_Add
def r0:List AI:=[o 4 (.mov (.c .nil))]
def r1:List AI:=[m 7 0,o 8 (.len 7),m 9 1,o 10 (.len 9),o 11 (.bin .lss 8 10)]
def r2:List AI:=[m 12 1,m 13 0,m 0 12,m 1 13]
def r3:List AI:=[m 14 0,o 15 (.len 14),o 16 (.mk 16 3 56 [(.bool false),.nil,.nil] 15 15),m 5 16]
def r4:List AI:=[m 17 5,o 18 (.len 17),o 19 (.mov (k 0))]
def r5:List AI:=[o 20 (.bin .lss 19 18)]
def r6:List AI:=[m 21 19,m 6 21]
def r7:List AI:=[m 22 6,m 23 1,o 24 (.len 23),o 25 (.bin .lss 22 24)]
def r8:List AI:=[m 26 5,m 27 6,m 28 0,m 29 6,o 30 (.iadr none 3 28 29),o 31 (.ld true 3 30),m 32 1,m 33 6,o 34 (.iadr none 3 32 33),o 35 (.ld true 3 34),
 o 36 (.call 98 [31,35]),o 37 (.iadr none 3 26 27),n (.st 3 37 36)]
def r9:List AI:=[m 38 5,m 39 6,m 40 0,m 41 6,o 42 (.iadr none 3 40 41),o 43 (.ld true 3 42),o 44 (.call 95 [43]),o 45 (.iadr none 3 38 39),n (.st 3 45 44)]
def r10:List AI:=[o 46 (.bin .add 19 (k 1)),m 19 46]
def r11:List AI:=[m 47 5,o 48 (.calli 169 [47]),m 4 48]
def l1:ACode:=(.seq (.ops r5 false) (.seq (.cond 20 .skip (.exit 0)) (.seq (.block 1 (.seq (.dr (.ops r6 false) [20,21] []) (.seq (.dr (.ops r7 false) [22,23,24] []) (.cond 25 (.dr (.ops r8 true) [6,25,26,27,28,29,30,31,32,33,34,35,36,37] []) (.dr (.ops r9 false) [6,25,38,39,40,41,42,43,44,45] []))))) (.dr (.ops r10 false) [46] []))))
def c:ACode:=(.seq (.dr (.ops r0 false) [4] []) (.seq (.seq (.dr (.ops r1 false) [7,8,9,10] []) (.cond 11 (.dr (.ops r2 false) [11,12,13] []) .skip)) (.seq (.dr (.ops r3 false) [11,14,15,16] []) (.seq (.seq (.dr (.ops r4 false) [17] []) (.block 0 (.loop l1))) (.seq (.dr (.ops r11 false) [0,1,5,18,19,20,47,48] []) .ret)))))
end poly_Add
def poly_Add:AFn:=⟨2,poly_Add.c,[.tmp 4],false⟩
namespace poly_Scale
def r0:List AI:=[o 3 (.box 3 1),o 4 (.mov (.c .nil))]
def r1:List AI:=[m 7 0,o 8 (.len 7),o 9 (.mk 9 3 56 [(.bool false),.nil,.nil] 8 8),m 5 9]
def r2:List AI:=[m 10 5,o 11 (.len 10),o 12 (.mov (k 0))]
def r3:List AI:=[o 13 (.bin .lss 12 11)]
def r4:List AI:=[m 14 12,m 6 14]
def r5:List AI:=[m 15 5,m 16 6,m 17 0,m 18 6,o 19 (.iadr none 3 17 18),o 20 (.ld true 3 19),o 21 (.ld true 3 3),o 22 (.call 99 [20,21]),o 23 (.iadr none 3 15 16),
 n (.st 3 23 22)]
def r6:List AI:=[o 24 (.bin .add 12 (k 1)),m 12 24]
def r7:List AI:=[m 25 5,o 26 (.calli 169 [25]),m 4 26]
def l1:ACode:=(.seq (.ops r3 false) (.seq (.cond 13 .skip (.exit 0)) (.seq (.block 1 (.seq (.dr (.ops r4 false) [13,14] []) (.dr (.ops r5 true) [6,15,16,17,18,19,20,21,22,23] []))) (.dr (.ops r6 false) [24] []))))
def c:ACode:=(.seq (.dr (.ops r0 false) [1,4] []) (.seq (.dr (.ops r1 false) [7,8,9] []) (.seq (.seq (.dr (.ops r2 false) [10] []) (.block 0 (.loop l1))) (.seq (.dr (.ops r7 false) [0,3,5,11,12,13,25,26] []) .ret))))
end poly_Scale
def poly_Scale:AFn:=⟨2,poly_Scale.c,[.tmp 4],false⟩
namespace ref05_At
def r0:List AI:=[o 4 (.alloc 4 [(.bool false),.nil,.nil])]
def r1:List AI:=[m 5 1,o 6 (.bin .lss 5 (k 0)),m 7 6,g 8 7 false (.mov 1),g 9 7 false (.mov 0),g 10 7 false (.len 9),g 11 7 false (.bin .geq 8 10),
 o 12 (.pick 7 (.c (.bool true)) 11)]
def r2:List AI:=[o 13 (.call 124 [(k 0)]),n (.st 3 4 13)]
def r3:List AI:=[m 14 0,m 15 1,o 16 (.iadr none 3 14 15),o 17 (.ld true 3 16),o 18 (.call 123 [17]),n (.st 3 4 18)]
def c:ACode:=(.seq (.ops r0 false) (.seq (.seq (.dr (.ops r1 false) [5,6,7,8,9,10,11] []) (.cond 12 (.seq (.dr (.ops r2 false) [0,1,12,13] []) .ret) .skip)) (.seq (.dr (.ops r3 false) [0,1,12,14,15,16,17,18] []) .ret)))
end ref05_At
def ref05_At:AFn:=⟨2,ref05_At.c,[.cell 4 true 3],false⟩
structure TrGLib (L:Lib):Prop extends LinGLib L,RatHLib L,PolyGLib L,R05GLib L where
 network_times:L 188=some F.network_times
 network_Transfer:L 189=some F.network_Transfer
 poly_Add:L 191=some F.poly_Add
 poly_Scale:L 190=some F.poly_Scale
 ref05_At:L 192=some F.ref05_At
end Go.Eng.F

namespace Go.Eng.F
open C
namespace world_Rats
def r0:List AI:=[o 4 (.mov (.c .nil))]
def r1:List AI:=[o 5 (.vrow 5 3)]
def r2:List AI:=[o 6 (.mov (k 0))]
def r3:List AI:=[m 8 6,m 9 1,o 10 (.bin .lss 8 9)]
def r5:List AI:=[m 13 0,m 14 6,o 15 (.call 35 [13,14]),o 16 (.call 34 [15,(k 2000)]),m 7 16]
def r6:List AI:=[m 17 5,m 18 7,o 19 (.bin .rem 18 (k 25)),o 20 (.bin .sub 19 (k 12)),m 21 7,o 22 (.bin .quo 21 (k 25)),o 23 (.bin .rem 22 (k 8)),
 o 24 (.bin .add (k 1) 23),o 25 (.call 125 [20,24]),o 26 (.bslice 26 3 [25]),o 27 (.app 27 3 56 17 26),m 5 27]
def r4:List AI:=[m 11 6,o 12 (.bin .add 11 (k 1)),m 6 12]
def r7:List AI:=[m 28 5,m 4 28]
def l1:ACode:=(.seq (.seq (.dr (.ops r3 false) [8,9] []) (.cond 10 .skip (.exit 0))) (.seq (.block 1 (.seq (.dr (.ops r5 false) [10,13,14,15,16] []) (.dr (.ops r6 false) [7,17,18,19,20,21,22,23,24,25,26,27] []))) (.dr (.ops r4 false) [11,12] [])))
def c:ACode:=(.seq (.dr (.ops r0 false) [4] []) (.seq (.ops r1 false) (.seq (.seq (.ops r2 false) (.block 0 (.loop l1))) (.seq (.dr (.ops r7 false) [0,1,5,6,10,28] []) .ret))))
end world_Rats
def world_Rats:AFn:=⟨2,world_Rats.c,[.tmp 4],false⟩
structure RatsGLib (L:Lib):Prop extends WorldLib L,RefGLib L where
 world_Rats:L 141=some F.world_Rats
end Go.Eng.F

namespace Go.Eng.F
open C
namespace ref22_SameSystems
def r0:List AI:=[o 2 (.box 2 0),o 3 (.box 3 1),o 4 (.mov (.c (.bool false)))]
def r1:List AI:=[o 6 (.fadr 2 0),o 7 (.ld false 1 6),o 8 (.len 7),o 9 (.fadr 3 0),o 10 (.ld false 1 9),o 11 (.len 10),o 12 (.bin .neq 8 11),m 13 12,
 g 14 13 false (.fadr 2 1),g 15 13 false (.ld false 1 14),g 16 13 false (.fadr 3 1),g 17 13 false (.ld false 1 16),g 18 13 false (.call 129 [15,17]),
 g 19 13 false (.un .not 18),o 20 (.pick 13 (.c (.bool true)) 19),m 21 20,g 22 21 false (.fadr 2 2),g 23 21 false (.ld false 1 22),
 g 24 21 false (.fadr 3 2),g 25 21 false (.ld false 1 24),g 26 21 false (.call 129 [23,25]),g 27 21 false (.un .not 26),
 o 28 (.pick 21 (.c (.bool true)) 27),m 29 28,g 30 29 false (.fadr 2 3),g 31 29 false (.ld true 3 30),g 32 29 false (.fadr 3 3),
 g 33 29 false (.ld true 3 32),g 34 29 false (.call 127 [31,33]),g 35 29 false (.bin .neq 34 (k 0)),o 36 (.pick 29 (.c (.bool true)) 35)]
def r2:List AI:=[o 4 (.mov (.c (.bool false)))]
def r3:List AI:=[o 5 (.mov (k 0))]
def r4:List AI:=[m 37 5,o 38 (.fadr 2 0),o 39 (.ld false 1 38),o 40 (.len 39),o 41 (.bin .lss 37 40)]
def r6:List AI:=[o 44 (.fadr 2 0),o 45 (.ld false 1 44),m 46 5,o 47 (.iadr none 1 45 46),o 48 (.ld false 1 47),o 49 (.fadr 3 0),o 50 (.ld false 1 49),m 51 5,
 o 52 (.iadr none 1 50 51),o 53 (.ld false 1 52),o 54 (.call 129 [48,53]),o 55 (.un .not 54)]
def r7:List AI:=[o 4 (.mov (.c (.bool false)))]
def r5:List AI:=[m 42 5,o 43 (.bin .add 42 (k 1)),m 5 43]
def r8:List AI:=[o 4 (.mov (.c (.bool true)))]
def l1:ACode:=(.seq (.seq (.dr (.ops r4 false) [37,38,39,40] []) (.cond 41 .skip (.exit 0))) (.seq (.block 1 (.seq (.dr (.ops r6 true) [41,44,45,46,47,48,49,50,51,52,53,54] []) (.cond 55 (.seq (.dr (.ops r7 false) [2,3,5,55] []) .ret) .skip))) (.dr (.ops r5 false) [42,43,55] [])))
def c:ACode:=(.seq (.dr (.ops r0 false) [0,1,4] []) (.seq (.seq (.dr (.ops r1 false) [6,7,8,9,10,11,12,13,14,15,16,17,18,19,20,21,22,23,24,25,26,27,28,29,30,31,32,33,34,35] []) (.cond 36 (.seq (.dr (.ops r2 false) [2,3,36] []) .ret) .skip)) (.seq (.seq (.dr (.ops r3 false) [36] []) (.block 0 (.loop l1))) (.seq (.dr (.ops r8 false) [2,3,5,41] []) .ret))))
end ref22_SameSystems
def ref22_SameSystems:AFn:=⟨2,ref22_SameSystems.c,[.tmp 4],false⟩
structure ModGLib (L:Lib):Prop extends LinGLib L,RatHLib L,RefHLib L where
 ref22_SameSystems:L 167=some F.ref22_SameSystems
end Go.Eng.F

namespace Go.Eng.F
open C
namespace ref22_SameFilters
def r0:List AI:=[o 2 (.box 2 0),o 3 (.box 3 1),o 4 (.mov (.c (.bool false)))]
def r1:List AI:=[o 5 (.fadr 2 0),o 6 (.ld false 1 5),o 7 (.fadr 3 0),o 8 (.ld false 1 7),o 9 (.call 173 [6,8]),m 10 9,g 11 10 true (.fadr 2 1),
 g 12 10 true (.ld false 1 11),g 13 10 true (.fadr 3 1),g 14 10 true (.ld false 1 13),g 15 10 true (.call 173 [12,14]),
 o 16 (.pick 10 15 (.c (.bool false))),m 4 16]
def c:ACode:=(.seq (.dr (.ops r0 false) [0,1,4] []) (.seq (.dr (.ops r1 false) [2,3,5,6,7,8,9,10,11,12,13,14,15,16] []) .ret))
end ref22_SameFilters
def ref22_SameFilters:AFn:=⟨2,ref22_SameFilters.c,[.tmp 4],false⟩
structure BldGLib (L:Lib):Prop extends DirectGLib L,RatHLib L,PolyGLib L,R05GLib L where
 ref22_SameFilters:L 176=some F.ref22_SameFilters
end Go.Eng.F

namespace Go.Eng.F
open C
namespace integer_Compare
def r0:List AI:=[o 2 (.box 2 0),o 3 (.box 3 1),o 4 (.mov (k 0))]
def r1:List AI:=[o 7 (.ld true 2 2),o 8 (.call 86 [7]),o 9 (.ld true 2 3),o 10 (.call 86 [9]),m 5 8,m 6 10]
def r2:List AI:=[m 12 5,m 13 6,o 14 (.bin .lss 12 13),m 11 14]
def r3:List AI:=[o 4 (.mov (k (-1)))]
def r4:List AI:=[m 16 5,m 17 6,o 18 (.bin .gtr 16 17),m 15 18]
def r5:List AI:=[o 4 (.mov (k 1))]
def r6:List AI:=[m 20 5,o 21 (.bin .eql 20 (k (-1))),m 19 21]
def r7:List AI:=[o 22 (.fadr 3 1),o 23 (.ld false 1 22),o 24 (.fadr 2 1),o 25 (.ld false 1 24),o 26 (.call 67 [23,25]),m 4 26]
def r8:List AI:=[o 27 (.fadr 2 1),o 28 (.ld false 1 27),o 29 (.fadr 3 1),o 30 (.ld false 1 29),o 31 (.call 67 [28,30]),m 4 31]
def c:ACode:=(.seq (.dr (.ops r0 false) [0,1,4] []) (.seq (.dr (.ops r1 true) [7,8,9,10] []) (.seq (.block 0 (.seq (.dr (.ops r2 false) [12,13,14] []) (.cond 11 (.seq (.dr (.ops r3 false) [2,3,5,6,11] []) .ret) (.seq (.dr (.ops r4 false) [6,11,16,17,18] []) (.cond 15 (.seq (.dr (.ops r5 false) [2,3,5,15] []) .ret) (.seq (.dr (.ops r6 false) [5,15,20,21] []) (.cond 19 (.seq (.dr (.ops r7 false) [2,3,19,22,23,24,25,26] []) .ret) .skip))))))) (.seq (.dr (.ops r8 false) [2,3,19,27,28,29,30,31] []) .ret))))
end integer_Compare
def integer_Compare:AFn:=⟨2,integer_Compare.c,[.tmp 4],false⟩
namespace rational_Compare
def r0:List AI:=[o 2 (.box 2 0),o 3 (.box 3 1),o 4 (.mov (k 0))]
def r1:List AI:=[⟨some 7,.ld true 3 2,none,[5,6]⟩,⟨some 8,.callq 89 [7],none,[5,6]⟩,⟨some 9,.ld true 3 3,none,[5,6]⟩,⟨some 10,.callq 89 [9],none,[5,6]⟩,
 o 5 (.alloc 5 [(.bool false),.nil,.nil,(.bool false)]),o 6 (.alloc 6 [(.bool false),.nil,.nil,(.bool false)]),n (.st 4 5 8),n (.st 4 6 10)]
def r2:List AI:=[o 11 (.fadr 5 3),o 12 (.ld false 1 11),m 13 12,g 14 13 true (.fadr 6 3),g 15 13 true (.ld false 1 14),o 16 (.pick 13 15 (.c (.bool false)))]
def r3:List AI:=[o 17 (.fadr 5 0),o 18 (.fadr 17 0),o 19 (.ld true 2 18),o 20 (.fadr 6 0),o 21 (.fadr 20 0),o 22 (.ld true 2 21),o 23 (.call 197 [19,22]),m 4 23]
def r4:List AI:=[o 24 (.fadr 5 0),o 25 (.fadr 24 0),o 26 (.ld true 2 25),o 27 (.fadr 6 0),o 28 (.fadr 27 2),o 29 (.ld false 1 28),o 30 (.callq 91 [29]),
 o 31 (.call 88 [26,30]),o 32 (.fadr 6 0),o 33 (.fadr 32 0),o 34 (.ld true 2 33),o 35 (.fadr 5 0),o 36 (.fadr 35 2),o 37 (.ld false 1 36),
 o 38 (.callq 91 [37]),o 39 (.call 88 [34,38]),o 40 (.call 197 [31,39]),m 4 40]
def c:ACode:=(.seq (.dr (.ops r0 false) [0,1,4] []) (.seq (.dr (.ops r1 true) [2,3,7,8,9,10] []) (.seq (.seq (.dr (.ops r2 false) [11,12,13,14,15] []) (.cond 16 (.seq (.dr (.ops r3 false) [5,6,16,17,18,19,20,21,22,23] []) .ret) .skip)) (.seq (.dr (.ops r4 true) [5,6,16,24,25,26,27,28,29,30,31,32,33,34,35,36,37,38,39,40] []) .ret))))
end rational_Compare
def rational_Compare:AFn:=⟨2,rational_Compare.c,[.tmp 4],false⟩
namespace rational_Neg
def r0:List AI:=[o 1 (.box 1 0),o 2 (.alloc 2 [(.bool false),.nil,.nil])]
def r1:List AI:=[o 3 (.ld true 3 1),o 4 (.callq 149 [3]),o 5 (.call 95 [4]),n (.st 3 2 5)]
def c:ACode:=(.seq (.dr (.ops r0 false) [0] []) (.seq (.dr (.ops r1 false) [1,3,4,5] []) .ret))
end rational_Neg
def rational_Neg:AFn:=⟨1,rational_Neg.c,[.cell 2 true 3],false⟩
namespace poly_Degree
def r0:List AI:=[o 2 (.mov (k 0))]
def r1:List AI:=[m 3 0,o 4 (.calli 169 [3]),o 5 (.len 4),o 6 (.bin .sub 5 (k 1)),m 2 6]
def c:ACode:=(.seq (.dr (.ops r0 false) [2] []) (.seq (.dr (.ops r1 false) [0,3,4,5,6] []) .ret))
end poly_Degree
def poly_Degree:AFn:=⟨1,poly_Degree.c,[.tmp 2],false⟩
namespace response_Valid
def r0:List AI:=[o 1 (.box 1 0),o 2 (.mov (.c (.bool false)))]
def r1:List AI:=[o 3 (.fadr 1 0),o 4 (.ld false 1 3),o 5 (.call 200 [4]),o 6 (.bin .gtr 5 (k 48)),m 7 6,g 8 7 false (.fadr 1 1),g 9 7 false (.ld false 1 8),
 g 10 7 false (.call 200 [9]),g 11 7 false (.bin .gtr 10 (k 48)),o 12 (.pick 7 (.c (.bool true)) 11)]
def r2:List AI:=[o 2 (.mov (.c (.bool false)))]
def r3:List AI:=[o 13 (.fadr 1 1),o 14 (.ld false 1 13),o 15 (.len 14),o 16 (.bin .gtr 15 (k 0)),m 17 16,g 18 17 true (.fadr 1 1),g 19 17 true (.ld false 1 18),
 g 20 17 true (.iadr none 3 19 (k 0)),g 21 17 true (.ld true 3 20),g 22 17 true (.call 96 [(k 1)]),g 23 17 true (.call 198 [21,22]),
 g 24 17 true (.bin .eql 23 (k 0)),o 25 (.pick 17 24 (.c (.bool false))),m 2 25]
def c:ACode:=(.seq (.dr (.ops r0 false) [0,2] []) (.seq (.seq (.dr (.ops r1 false) [3,4,5,6,7,8,9,10,11] []) (.cond 12 (.seq (.dr (.ops r2 false) [1,12] []) .ret) .skip)) (.seq (.dr (.ops r3 true) [1,12,13,14,15,16,17,18,19,20,21,22,23,24,25] []) .ret)))
end response_Valid
def response_Valid:AFn:=⟨1,response_Valid.c,[.tmp 2],false⟩
namespace ref05_Degree
def r0:List AI:=[o 2 (.mov (k 0))]
def r1:List AI:=[m 3 0,o 4 (.call 171 [3]),o 5 (.len 4),o 6 (.bin .sub 5 (k 1)),m 2 6]
def c:ACode:=(.seq (.dr (.ops r0 false) [2] []) (.seq (.dr (.ops r1 false) [0,3,4,5,6] []) .ret))
end ref05_Degree
def ref05_Degree:AFn:=⟨1,ref05_Degree.c,[.tmp 2],false⟩
namespace ref20_Valid
def r0:List AI:=[o 1 (.box 1 0),o 2 (.mov (.c (.bool false)))]
def r1:List AI:=[o 3 (.fadr 1 0),o 4 (.ld false 1 3),o 5 (.call 202 [4]),o 6 (.bin .leq 5 (k 48)),m 7 6,g 8 7 true (.fadr 1 1),g 9 7 true (.ld false 1 8),
 g 10 7 true (.call 202 [9]),g 11 7 true (.bin .leq 10 (k 48)),o 12 (.pick 7 11 (.c (.bool false))),m 13 12,g 14 13 true (.fadr 1 1),
 g 15 13 true (.ld false 1 14),g 16 13 true (.call 192 [15,(k 0)]),g 17 13 true (.call 124 [(k 1)]),g 18 13 true (.call 127 [16,17]),
 g 19 13 true (.bin .eql 18 (k 0)),o 20 (.pick 13 19 (.c (.bool false))),m 2 20]
def c:ACode:=(.seq (.dr (.ops r0 false) [0,2] []) (.seq (.dr (.ops r1 false) [1,3,4,5,6,7,8,9,10,11,12,13,14,15,16,17,18,19,20] []) .ret))
end ref20_Valid
def ref20_Valid:AFn:=⟨1,ref20_Valid.c,[.tmp 2],false⟩
namespace statespace_degree
def r0:List AI:=[o 2 (.mov (k 0))]
def r1:List AI:=[m 4 0,o 5 (.len 4),o 6 (.bin .sub 5 (k 1)),m 3 6]
def r2:List AI:=[m 7 3,o 8 (.bin .gtr 7 (k 0))]
def r4:List AI:=[m 11 0,m 12 3,o 13 (.iadr none 3 11 12),o 14 (.ld true 3 13),o 15 (.call 97 [14]),o 16 (.bin .neq 15 (k 0))]
def r5:List AI:=[m 17 3,m 2 17]
def r3:List AI:=[m 9 3,o 10 (.bin .sub 9 (k 1)),m 3 10]
def r6:List AI:=[o 2 (.mov (k 0))]
def l1:ACode:=(.seq (.seq (.dr (.ops r2 false) [7] []) (.cond 8 .skip (.exit 0))) (.seq (.block 1 (.seq (.dr (.ops r4 false) [8,11,12,13,14,15] []) (.cond 16 (.seq (.dr (.ops r5 false) [0,3,16,17] []) .ret) .skip))) (.dr (.ops r3 false) [9,10,16] [])))
def c:ACode:=(.seq (.dr (.ops r0 false) [2] []) (.seq (.seq (.dr (.ops r1 false) [4,5,6] []) (.block 0 (.loop l1))) (.seq (.dr (.ops r6 false) [0,3,8] []) .ret)))
end statespace_degree
def statespace_degree:AFn:=⟨1,statespace_degree.c,[.tmp 2],false⟩
namespace statespace_at
def r0:List AI:=[o 4 (.alloc 4 [(.bool false),.nil,.nil])]
def r1:List AI:=[m 5 1,m 6 0,o 7 (.len 6),o 8 (.bin .lss 5 7)]
def r2:List AI:=[m 9 0,m 10 1,o 11 (.iadr none 3 9 10),o 12 (.ld true 3 11),o 13 (.call 95 [12]),n (.st 3 4 13)]
def r3:List AI:=[o 14 (.call 96 [(k 0)]),n (.st 3 4 14)]
def c:ACode:=(.seq (.ops r0 false) (.seq (.seq (.dr (.ops r1 false) [5,6,7] []) (.cond 8 (.seq (.dr (.ops r2 false) [0,1,8,9,10,11,12,13] []) .ret) .skip)) (.seq (.dr (.ops r3 false) [0,1,8,14] []) .ret)))
end statespace_at
def statespace_at:AFn:=⟨2,statespace_at.c,[.cell 4 true 3],false⟩
namespace statespace_zeros
def r0:List AI:=[o 2 (.mov (.c .nil))]
def r1:List AI:=[m 5 0,o 6 (.mk 6 3 56 [(.bool false),.nil,.nil] 5 5),m 3 6]
def r2:List AI:=[m 7 0,o 8 (.mov (k 0))]
def r3:List AI:=[o 9 (.bin .lss 8 7)]
def r4:List AI:=[m 10 8,m 4 10]
def r5:List AI:=[m 11 3,m 12 4,o 13 (.call 96 [(k 0)]),o 14 (.iadr none 3 11 12),n (.st 3 14 13)]
def r6:List AI:=[o 15 (.bin .add 8 (k 1)),m 8 15]
def r7:List AI:=[m 16 3,m 2 16]
def l1:ACode:=(.seq (.ops r3 false) (.seq (.cond 9 .skip (.exit 0)) (.seq (.block 1 (.seq (.dr (.ops r4 false) [9,10] []) (.dr (.ops r5 false) [4,11,12,13,14] []))) (.dr (.ops r6 false) [15] []))))
def c:ACode:=(.seq (.dr (.ops r0 false) [2] []) (.seq (.dr (.ops r1 false) [5,6] []) (.seq (.seq (.dr (.ops r2 false) [0] []) (.block 0 (.loop l1))) (.seq (.dr (.ops r7 false) [3,7,8,9,16] []) .ret))))
end statespace_zeros
def statespace_zeros:AFn:=⟨1,statespace_zeros.c,[.tmp 2],false⟩
namespace statespace_Controller
def r0:List AI:=[o 1 (.box 1 0),o 2 (.alloc 2 [.nil,.nil,.nil,(.bool false),.nil,.nil]),o 3 (.mov (k 0))]
def r1:List AI:=[o 10 (.ld true 2 1),o 11 (.call 201 [10]),o 12 (.un .not 11)]
def r2:List AI:=[o 13 (.build [.nil,.nil,.nil,(.bool false),.nil,.nil] []),n (.st 6 2 13),o 3 (.mov (k 2))]
def r3:List AI:=[o 14 (.fadr 1 0),o 15 (.ld false 1 14),o 16 (.call 204 [15]),o 17 (.fadr 1 1),o 18 (.ld false 1 17),o 19 (.call 204 [18]),o 20 (.mm true [16,19]),
 m 4 20]
def r4:List AI:=[m 21 4,o 22 (.bin .gtr 21 (k 16))]
def r5:List AI:=[o 23 (.build [.nil,.nil,.nil,(.bool false),.nil,.nil] []),n (.st 6 2 23),o 3 (.mov (k 12))]
def r6:List AI:=[o 24 (.fadr 1 0),o 25 (.ld false 1 24),o 26 (.call 205 [25,(k 0)]),m 27 4,o 28 (.callr 28 206 [27]),
 o 29 (.build [.nil,.nil,.nil,(.bool false),.nil,.nil] [(3,3,26),(1,1,28)]),o 5 (.alloc 5 [.nil,.nil,.nil,(.bool false),.nil,.nil]),
 n (.st 6 5 29)]
def r7:List AI:=[m 30 4,o 31 (.bin .gtr 30 (k 0))]
def r8:List AI:=[o 32 (.fadr 5 1),o 33 (.ld false 1 32),o 34 (.call 96 [(k 1)]),o 35 (.iadr none 3 33 (k 0)),n (.st 3 35 34)]
def r9:List AI:=[m 36 4,o 37 (.mov (k 0))]
def r10:List AI:=[o 38 (.bin .lss 37 36)]
def r11:List AI:=[m 39 37,m 6 39]
def r12:List AI:=[m 40 4,o 41 (.callr 41 206 [40]),m 7 41]
def r13:List AI:=[m 42 6,o 43 (.bin .gtr 42 (k 0))]
def r14:List AI:=[m 44 7,m 45 6,o 46 (.bin .sub 45 (k 1)),o 47 (.call 96 [(k 1)]),o 48 (.iadr none 3 44 46),n (.st 3 48 47)]
def r15:List AI:=[m 49 4,o 50 (.mov (k 0))]
def r16:List AI:=[o 51 (.bin .lss 50 49)]
def r17:List AI:=[m 52 50,m 8 52]
def r18:List AI:=[m 53 7,m 54 8,o 55 (.fadr 1 1),o 56 (.ld false 1 55),m 57 8,o 58 (.bin .add 57 (k 1)),o 59 (.call 205 [56,58]),o 60 (.call 199 [59]),
 o 61 (.iadr none 3 53 54),n (.st 3 61 60)]
def r19:List AI:=[o 62 (.bin .add 50 (k 1)),m 50 62]
def r20:List AI:=[o 63 (.fadr 5 0),o 64 (.ld false 1 63),m 65 7,o 66 (.bslice 66 1 [65]),o 67 (.app 67 1 24 64 66),o 68 (.fadr 5 0),n (.st 1 68 67)]
def r21:List AI:=[o 69 (.fadr 1 0),⟨some 70,.ld false 1 69,none,[9]⟩,⟨some 71,.call 205 [70,(k 0)],none,[9]⟩,o 72 (.fadr 1 1),⟨some 73,.ld false 1 72,none,[9]⟩,
 m 74 6,o 75 (.bin .add 74 (k 1)),⟨some 76,.call 205 [73,75],none,[9]⟩,⟨some 77,.call 99 [71,76],none,[9]⟩,
 o 9 (.alloc 9 [(.bool false),.nil,.nil]),n (.st 3 9 77)]
def r22:List AI:=[o 78 (.fadr 5 2),⟨some 79,.ld false 1 78,none,[87]⟩,o 80 (.fadr 1 0),o 81 (.ld false 1 80),m 82 6,o 83 (.bin .add 82 (k 1)),o 84 (.call 205 [81,83]),
 o 85 (.ld true 3 9),o 86 (.call 150 [84,85]),o 87 (.bslice 87 3 [86]),o 88 (.app 88 3 56 79 87),o 89 (.fadr 5 2),n (.st 1 89 88)]
def r23:List AI:=[o 90 (.bin .add 37 (k 1)),m 37 90]
def r24:List AI:=[o 91 (.ld true 6 5),n (.st 6 2 91),o 3 (.mov (k 0))]
def l2:ACode:=(.seq (.ops r16 false) (.seq (.cond 51 .skip (.exit 2)) (.seq (.block 3 (.seq (.dr (.ops r17 false) [51,52] []) (.dr (.ops r18 false) [8,53,54,55,56,57,58,59,60,61] []))) (.dr (.ops r19 false) [62] []))))
def l1:ACode:=(.seq (.ops r10 false) (.seq (.cond 38 .skip (.exit 0)) (.seq (.block 1 (.seq (.dr (.ops r11 false) [38,39] []) (.seq (.dr (.ops r12 false) [40,41] []) (.seq (.seq (.dr (.ops r13 false) [42] []) (.cond 43 (.dr (.ops r14 false) [43,44,45,46,47,48] []) (.seq (.dr (.ops r15 false) [43] []) (.block 2 (.loop l2))))) (.seq (.dr (.ops r20 false) [7,49,50,51,63,64,65,66,67,68] []) (.seq (.dr (.ops r21 true) [69,70,71,72,73,74,75,76,77] []) (.dr (.ops r22 true) [6,9,78,79,80,81,82,83,84,85,86,87,88,89] []))))))) (.dr (.ops r23 false) [90] []))))
def c:ACode:=(.seq (.dr (.ops r0 false) [0,3] []) (.seq (.seq (.dr (.ops r1 false) [10,11] []) (.cond 12 (.seq (.dr (.ops r2 false) [1,12,13] []) .ret) .skip)) (.seq (.dr (.ops r3 true) [12,14,15,16,17,18,19,20] []) (.seq (.seq (.dr (.ops r4 false) [21] []) (.cond 22 (.seq (.dr (.ops r5 false) [1,4,22,23] []) .ret) .skip)) (.seq (.dr (.ops r6 false) [22,24,25,26,27,28,29] []) (.seq (.seq (.dr (.ops r7 false) [30] []) (.cond 31 (.dr (.ops r8 true) [31,32,33,34,35] []) .skip)) (.seq (.seq (.dr (.ops r9 false) [31] []) (.block 0 (.loop l1))) (.seq (.dr (.ops r24 false) [1,4,5,36,37,38,91] []) .ret))))))))
end statespace_Controller
def statespace_Controller:AFn:=⟨1,statespace_Controller.c,[.cell 2 true 6,.tmp 3],false⟩
namespace statespace_Observer
def r0:List AI:=[o 1 (.box 1 0),o 2 (.alloc 2 [.nil,.nil,.nil,(.bool false),.nil,.nil]),o 3 (.mov (k 0))]
def r1:List AI:=[o 11 (.ld true 2 1),o 12 (.call 207 [11]),m 10 12,o 13 (.ext 10 0),o 14 (.ext 10 1),o 4 (.alloc 4 [.nil,.nil,.nil,(.bool false),.nil,.nil]),
 n (.st 6 4 13),m 5 14]
def r2:List AI:=[m 15 5,o 16 (.bin .neq 15 (k 0))]
def r3:List AI:=[o 17 (.build [.nil,.nil,.nil,(.bool false),.nil,.nil] []),m 18 5,n (.st 6 2 17),m 3 18]
def r4:List AI:=[o 19 (.fadr 4 0),o 20 (.ld false 1 19),o 21 (.len 20),m 6 21]
def r5:List AI:=[m 22 6,o 23 (.mk 23 1 24 [.nil] 22 22),m 7 23]
def r6:List AI:=[m 24 6,o 25 (.mov (k 0))]
def r7:List AI:=[o 26 (.bin .lss 25 24)]
def r8:List AI:=[m 27 25,m 8 27]
def r9:List AI:=[m 28 7,m 29 8,m 30 6,o 31 (.mk 31 3 56 [(.bool false),.nil,.nil] 30 30),o 32 (.iadr none 1 28 29),n (.st 1 32 31)]
def r10:List AI:=[m 33 6,o 34 (.mov (k 0))]
def r11:List AI:=[o 35 (.bin .lss 34 33)]
def r12:List AI:=[m 36 34,m 9 36]
def r13:List AI:=[m 37 7,m 38 8,o 39 (.iadr none 1 37 38),o 40 (.ld false 1 39),m 41 9,o 42 (.fadr 4 0),o 43 (.ld false 1 42),m 44 9,o 45 (.iadr none 1 43 44),
 o 46 (.ld false 1 45),m 47 8,o 48 (.iadr none 3 46 47),o 49 (.ld true 3 48),o 50 (.iadr none 3 40 41),n (.st 3 50 49)]
def r14:List AI:=[o 51 (.bin .add 34 (k 1)),m 34 51]
def r15:List AI:=[o 52 (.bin .add 25 (k 1)),m 25 52]
def r16:List AI:=[m 53 7,o 54 (.fadr 4 2),o 55 (.ld false 1 54),o 56 (.fadr 4 1),o 57 (.ld false 1 56),o 58 (.fadr 4 3),o 59 (.ld true 3 58),
 o 60 (.build [.nil,.nil,.nil,(.bool false),.nil,.nil] [(0,1,53),(1,1,55),(2,1,57),(3,3,59)]),n (.st 6 2 60),o 3 (.mov (k 0))]
def l2:ACode:=(.seq (.ops r11 false) (.seq (.cond 35 .skip (.exit 2)) (.seq (.block 3 (.seq (.dr (.ops r12 false) [35,36] []) (.dr (.ops r13 true) [9,37,38,39,40,41,42,43,44,45,46,47,48,49,50] []))) (.dr (.ops r14 false) [51] []))))
def l1:ACode:=(.seq (.ops r7 false) (.seq (.cond 26 .skip (.exit 0)) (.seq (.block 1 (.seq (.dr (.ops r8 false) [26,27] []) (.seq (.dr (.ops r9 false) [28,29,30,31,32] []) (.seq (.ops r10 false) (.block 2 (.loop l2)))))) (.dr (.ops r15 false) [8,33,34,35,52] []))))
def c:ACode:=(.seq (.dr (.ops r0 false) [0,3] []) (.seq (.dr (.ops r1 false) [1,10,11,12,13,14] []) (.seq (.seq (.dr (.ops r2 false) [15] []) (.cond 16 (.seq (.dr (.ops r3 false) [4,5,16,17,18] []) .ret) .skip)) (.seq (.dr (.ops r4 false) [5,16,19,20,21] []) (.seq (.dr (.ops r5 false) [22,23] []) (.seq (.seq (.ops r6 false) (.block 0 (.loop l1))) (.seq (.dr (.ops r16 false) [4,6,7,24,25,26,53,54,55,56,57,58,59,60] []) .ret)))))))
end statespace_Observer
def statespace_Observer:AFn:=⟨1,statespace_Observer.c,[.cell 2 true 6,.tmp 3],false⟩
namespace ref27_at
def r0:List AI:=[o 4 (.alloc 4 [(.bool false),.nil,.nil])]
def r1:List AI:=[m 5 1,m 6 0,o 7 (.len 6),o 8 (.bin .lss 5 7)]
def r2:List AI:=[m 9 0,m 10 1,o 11 (.iadr none 3 9 10),o 12 (.ld true 3 11),o 13 (.call 123 [12]),n (.st 3 4 13)]
def r3:List AI:=[o 14 (.call 124 [(k 0)]),n (.st 3 4 14)]
def c:ACode:=(.seq (.ops r0 false) (.seq (.seq (.dr (.ops r1 false) [5,6,7] []) (.cond 8 (.seq (.dr (.ops r2 false) [0,1,8,9,10,11,12,13] []) .ret) .skip)) (.seq (.dr (.ops r3 false) [0,1,8,14] []) .ret)))
end ref27_at
def ref27_at:AFn:=⟨2,ref27_at.c,[.cell 4 true 3],false⟩
namespace ref27_zeros
def r0:List AI:=[o 2 (.mov (.c .nil))]
def r1:List AI:=[o 3 (.vrow 3 3)]
def r2:List AI:=[o 4 (.mov (k 0))]
def r3:List AI:=[m 5 4,m 6 0,o 7 (.bin .lss 5 6)]
def r5:List AI:=[m 10 3,o 11 (.call 124 [(k 0)]),o 12 (.bslice 12 3 [11]),o 13 (.app 13 3 56 10 12),m 3 13]
def r4:List AI:=[m 8 4,o 9 (.bin .add 8 (k 1)),m 4 9]
def r6:List AI:=[m 14 3,m 2 14]
def l1:ACode:=(.seq (.seq (.dr (.ops r3 false) [5,6] []) (.cond 7 .skip (.exit 0))) (.seq (.block 1 (.dr (.ops r5 false) [7,10,11,12,13] [])) (.dr (.ops r4 false) [8,9] [])))
def c:ACode:=(.seq (.dr (.ops r0 false) [2] []) (.seq (.ops r1 false) (.seq (.seq (.ops r2 false) (.block 0 (.loop l1))) (.seq (.dr (.ops r6 false) [0,3,4,7,14] []) .ret))))
end ref27_zeros
def ref27_zeros:AFn:=⟨1,ref27_zeros.c,[.tmp 2],false⟩
namespace ref27_Controller
def r0:List AI:=[o 1 (.box 1 0),o 2 (.alloc 2 [.nil,.nil,.nil,(.bool false),.nil,.nil]),o 3 (.mov (k 0))]
def r1:List AI:=[o 9 (.ld true 2 1),o 10 (.call 203 [9]),o 11 (.un .not 10)]
def r2:List AI:=[o 12 (.build [.nil,.nil,.nil,(.bool false),.nil,.nil] []),n (.st 6 2 12),o 3 (.mov (k 2))]
def r3:List AI:=[o 13 (.fadr 1 0),o 14 (.ld false 1 13),o 15 (.call 202 [14]),o 16 (.fadr 1 1),o 17 (.ld false 1 16),o 18 (.call 202 [17]),o 19 (.mm true [15,18,(k 0)]),
 m 4 19]
def r4:List AI:=[m 20 4,o 21 (.bin .gtr 20 (k 16))]
def r5:List AI:=[o 22 (.build [.nil,.nil,.nil,(.bool false),.nil,.nil] []),n (.st 6 2 22),o 3 (.mov (k 12))]
def r6:List AI:=[o 23 (.fadr 1 0),o 24 (.ld false 1 23),o 25 (.call 209 [24,(k 0)]),m 26 4,o 27 (.callr 27 210 [26]),
 o 28 (.build [.nil,.nil,.nil,(.bool false),.nil,.nil] [(3,3,25),(1,1,27)]),o 5 (.alloc 5 [.nil,.nil,.nil,(.bool false),.nil,.nil]),
 n (.st 6 5 28)]
def r7:List AI:=[o 6 (.mov (k 0))]
def r8:List AI:=[m 29 6,m 30 4,o 31 (.bin .lss 29 30)]
def r10:List AI:=[m 34 4,o 35 (.callr 35 210 [34]),m 7 35]
def r11:List AI:=[m 36 6,o 37 (.bin .eql 36 (k 0))]
def r12:List AI:=[o 38 (.fadr 5 1),o 39 (.ld false 1 38),o 40 (.call 124 [(k 1)]),o 41 (.iadr none 3 39 (k 0)),n (.st 3 41 40)]
def r13:List AI:=[o 8 (.mov (k 1))]
def r14:List AI:=[m 42 8,m 43 4,o 44 (.bin .leq 42 43)]
def r16:List AI:=[m 47 7,m 48 8,o 49 (.bin .sub 48 (k 1)),o 50 (.fadr 1 1),o 51 (.ld false 1 50),m 52 8,o 53 (.call 209 [51,52]),o 54 (.call 152 [53]),
 o 55 (.iadr none 3 47 49),n (.st 3 55 54)]
def r15:List AI:=[m 45 8,o 46 (.bin .add 45 (k 1)),m 8 46]
def r17:List AI:=[m 56 7,m 57 6,o 58 (.bin .sub 57 (k 1)),o 59 (.call 124 [(k 1)]),o 60 (.iadr none 3 56 58),n (.st 3 60 59)]
def r18:List AI:=[o 61 (.fadr 5 0),o 62 (.ld false 1 61),m 63 7,o 64 (.bslice 64 1 [63]),o 65 (.app 65 1 24 62 64),o 66 (.fadr 5 0),n (.st 1 66 65)]
def r19:List AI:=[o 67 (.fadr 5 2),⟨some 68,.ld false 1 67,none,[83]⟩,o 69 (.fadr 1 0),o 70 (.ld false 1 69),m 71 6,o 72 (.bin .add 71 (k 1)),o 73 (.call 209 [70,72]),
 o 74 (.fadr 5 3),o 75 (.ld true 3 74),o 76 (.fadr 1 1),o 77 (.ld false 1 76),m 78 6,o 79 (.bin .add 78 (k 1)),o 80 (.call 209 [77,79]),
 o 81 (.call 128 [75,80]),o 82 (.call 153 [73,81]),o 83 (.bslice 83 3 [82]),o 84 (.app 84 3 56 68 83),o 85 (.fadr 5 2),n (.st 1 85 84)]
def r9:List AI:=[m 32 6,o 33 (.bin .add 32 (k 1)),m 6 33]
def r20:List AI:=[o 86 (.ld true 6 5),n (.st 6 2 86),o 3 (.mov (k 0))]
def l2:ACode:=(.seq (.seq (.dr (.ops r14 false) [42,43] []) (.cond 44 .skip (.exit 2))) (.seq (.block 3 (.dr (.ops r16 false) [44,47,48,49,50,51,52,53,54,55] [])) (.dr (.ops r15 false) [45,46] [])))
def l1:ACode:=(.seq (.seq (.dr (.ops r8 false) [29,30] []) (.cond 31 .skip (.exit 0))) (.seq (.block 1 (.seq (.dr (.ops r10 false) [31,34,35] []) (.seq (.seq (.dr (.ops r11 false) [36] []) (.cond 37 (.seq (.dr (.ops r12 true) [37,38,39,40,41] []) (.seq (.ops r13 false) (.block 2 (.loop l2)))) (.dr (.ops r17 false) [37,56,57,58,59,60] []))) (.seq (.dr (.ops r18 false) [7,8,44,61,62,63,64,65,66] []) (.dr (.ops r19 true) [67,68,69,70,71,72,73,74,75,76,77,78,79,80,81,82,83,84,85] []))))) (.dr (.ops r9 false) [32,33] [])))
def c:ACode:=(.seq (.dr (.ops r0 false) [0,3] []) (.seq (.seq (.dr (.ops r1 false) [9,10] []) (.cond 11 (.seq (.dr (.ops r2 false) [1,11,12] []) .ret) .skip)) (.seq (.dr (.ops r3 true) [11,13,14,15,16,17,18,19] []) (.seq (.seq (.dr (.ops r4 false) [20] []) (.cond 21 (.seq (.dr (.ops r5 false) [1,4,21,22] []) .ret) .skip)) (.seq (.dr (.ops r6 false) [21,23,24,25,26,27,28] []) (.seq (.seq (.ops r7 false) (.block 0 (.loop l1))) (.seq (.dr (.ops r20 false) [1,4,5,6,31,86] []) .ret)))))))
end ref27_Controller
def ref27_Controller:AFn:=⟨1,ref27_Controller.c,[.cell 2 true 6,.tmp 3],false⟩
namespace ref27_transposed
def r0:List AI:=[o 2 (.mov (.c .nil))]
def r1:List AI:=[m 6 0,o 7 (.len 6),o 8 (.mk 8 1 24 [.nil] 7 7),m 3 8]
def r2:List AI:=[o 4 (.mov (k 0))]
def r3:List AI:=[m 9 4,m 10 0,o 11 (.len 10),o 12 (.bin .lss 9 11)]
def r5:List AI:=[o 5 (.mov (k 0))]
def r6:List AI:=[m 15 5,m 16 0,o 17 (.len 16),o 18 (.bin .lss 15 17)]
def r8:List AI:=[m 21 3,m 22 4,m 23 3,m 24 4,o 25 (.iadr none 1 23 24),⟨some 26,.ld false 1 25,none,[34]⟩,m 27 0,m 28 5,o 29 (.iadr none 1 27 28),
 o 30 (.ld false 1 29),m 31 4,o 32 (.iadr none 3 30 31),o 33 (.ld true 3 32),o 34 (.bslice 34 3 [33]),o 35 (.app 35 3 56 26 34),o 36 (.iadr none 1 21 22),
 n (.st 1 36 35)]
def r7:List AI:=[m 19 5,o 20 (.bin .add 19 (k 1)),m 5 20]
def r4:List AI:=[m 13 4,o 14 (.bin .add 13 (k 1)),m 4 14]
def r9:List AI:=[m 37 3,m 2 37]
def l2:ACode:=(.seq (.seq (.dr (.ops r6 false) [15,16,17] []) (.cond 18 .skip (.exit 2))) (.seq (.block 3 (.dr (.ops r8 true) [18,21,22,23,24,25,26,27,28,29,30,31,32,33,34,35,36] [])) (.dr (.ops r7 false) [19,20] [])))
def l1:ACode:=(.seq (.seq (.dr (.ops r3 false) [9,10,11] []) (.cond 12 .skip (.exit 0))) (.seq (.block 1 (.seq (.dr (.ops r5 false) [12] []) (.block 2 (.loop l2)))) (.dr (.ops r4 false) [5,13,14,18] [])))
def c:ACode:=(.seq (.dr (.ops r0 false) [2] []) (.seq (.dr (.ops r1 false) [6,7,8] []) (.seq (.seq (.ops r2 false) (.block 0 (.loop l1))) (.seq (.dr (.ops r9 false) [0,3,4,12,37] []) .ret))))
end ref27_transposed
def ref27_transposed:AFn:=⟨1,ref27_transposed.c,[.tmp 2],false⟩
namespace ref27_Observer
def r0:List AI:=[o 1 (.box 1 0),o 2 (.alloc 2 [.nil,.nil,.nil,(.bool false),.nil,.nil]),o 3 (.mov (k 0))]
def r1:List AI:=[o 7 (.ld true 2 1),o 8 (.call 211 [7]),m 6 8,o 9 (.ext 6 0),o 10 (.ext 6 1),o 4 (.alloc 4 [.nil,.nil,.nil,(.bool false),.nil,.nil]),n (.st 6 4 9),
 m 5 10]
def r2:List AI:=[m 11 5,o 12 (.bin .neq 11 (k 0))]
def r3:List AI:=[o 13 (.build [.nil,.nil,.nil,(.bool false),.nil,.nil] []),m 14 5,n (.st 6 2 13),m 3 14]
def r4:List AI:=[o 15 (.fadr 4 0),o 16 (.ld false 1 15),o 17 (.call 212 [16]),o 18 (.fadr 4 2),o 19 (.ld false 1 18),o 20 (.fadr 4 1),o 21 (.ld false 1 20),
 o 22 (.fadr 4 3),o 23 (.ld true 3 22),o 24 (.build [.nil,.nil,.nil,(.bool false),.nil,.nil] [(0,1,17),(1,1,19),(2,1,21),(3,3,23)]),
 n (.st 6 2 24),o 3 (.mov (k 0))]
def c:ACode:=(.seq (.dr (.ops r0 false) [0,3] []) (.seq (.dr (.ops r1 false) [1,6,7,8,9,10] []) (.seq (.seq (.dr (.ops r2 false) [11] []) (.cond 12 (.seq (.dr (.ops r3 false) [4,5,12,13,14] []) .ret) .skip)) (.seq (.dr (.ops r4 true) [4,5,12,15,16,17,18,19,20,21,22,23,24] []) .ret))))
end ref27_Observer
def ref27_Observer:AFn:=⟨1,ref27_Observer.c,[.cell 2 true 6,.tmp 3],false⟩
structure StGLib (L:Lib):Prop extends TrGLib L where
 integer_Compare:L 197=some F.integer_Compare
 rational_Compare:L 198=some F.rational_Compare
 rational_Neg:L 199=some F.rational_Neg
 poly_Degree:L 200=some F.poly_Degree
 response_Valid:L 201=some F.response_Valid
 ref05_Degree:L 202=some F.ref05_Degree
 ref20_Valid:L 203=some F.ref20_Valid
 statespace_degree:L 204=some F.statespace_degree
 statespace_at:L 205=some F.statespace_at
 statespace_zeros:L 206=some F.statespace_zeros
 statespace_Controller:L 207=some F.statespace_Controller
 statespace_Observer:L 208=some F.statespace_Observer
 ref27_at:L 209=some F.ref27_at
 ref27_zeros:L 210=some F.ref27_zeros
 ref27_Controller:L 211=some F.ref27_Controller
 ref27_transposed:L 212=some F.ref27_transposed
 ref27_Observer:L 213=some F.ref27_Observer
end Go.Eng.F

namespace Go.Eng.F
open C
namespace law27_filter
def r0:List AI:=[o 4 (.alloc 4 [.nil,.nil])]
def r1:List AI:=[m 7 0,m 8 0,o 9 (.len 8),o 10 (.call 34 [9,(k 5)]),o 11 (.call 141 [7,10]),o 12 (.call 171 [11]),m 5 12]
def r2:List AI:=[o 13 (.call 124 [(k 1)]),o 14 (.bslice 14 3 [13]),m 15 1,m 16 1,o 17 (.len 16),o 18 (.call 34 [17,(k 4)]),o 19 (.call 141 [15,18]),
 o 20 (.app 20 3 56 14 19),o 21 (.call 171 [20]),m 6 21]
def r3:List AI:=[m 22 5,m 23 6,o 24 (.build [.nil,.nil] [(0,1,22),(1,1,23)]),n (.st 2 4 24)]
def c:ACode:=(.seq (.ops r0 false) (.seq (.dr (.ops r1 false) [0,7,8,9,10,11,12] []) (.seq (.dr (.ops r2 false) [1,13,14,15,16,17,18,19,20,21] []) (.seq (.dr (.ops r3 false) [5,6,22,23,24] []) .ret))))
end law27_filter
def law27_filter:AFn:=⟨2,law27_filter.c,[.cell 4 true 2],false⟩
namespace law27_known
def r0:List AI:=[o 0 (.mov (.c (.bool false)))]
def r1:List AI:=[o 5 (.call 124 [(k 1)]),o 6 (.call 125 [(k 1),(k 2)]),o 1 (.alloc 1 [(.bool false),.nil,.nil]),o 2 (.alloc 2 [(.bool false),.nil,.nil]),n (.st 3 1 5),
 n (.st 3 2 6)]
def r2:List AI:=[⟨some 8,.ld true 3 1,none,[13,3]⟩,o 9 (.bslice 9 3 [8]),⟨some 10,.ld true 3 1,none,[9,3]⟩,⟨some 11,.ld true 3 2,none,[9,3]⟩,
 ⟨some 12,.call 152 [11],none,[9,3]⟩,o 13 (.bslice 13 3 [10,12]),o 14 (.build [.nil,.nil] [(0,1,9),(1,1,13)]),⟨some 15,.call 207 [14],none,[3]⟩,
 m 7 15,o 16 (.ext 7 0),o 17 (.ext 7 1),o 3 (.alloc 3 [.nil,.nil,.nil,(.bool false),.nil,.nil]),n (.st 6 3 16),m 4 17]
def r3:List AI:=[m 18 4,o 19 (.bin .eql 18 (k 0)),m 20 19,g 21 20 true (.ld true 6 3),g 22 20 true (.ld true 3 2),g 23 20 true (.bslice 23 3 [22]),
 g 24 20 true (.bslice 24 1 [23]),g 25 20 true (.ld true 3 1),g 26 20 true (.bslice 26 3 [25]),g 27 20 true (.ld true 3 2),g 28 20 true (.bslice 28 3 [27]),
 g 29 20 true (.ld true 3 1),g 30 20 true (.build [.nil,.nil,.nil,(.bool false),.nil,.nil] [(0,1,24),(1,1,26),(2,1,28),(3,3,29)]),
 g 31 20 true (.call 167 [21,30]),o 32 (.pick 20 31 (.c (.bool false))),m 0 32]
def c:ACode:=(.seq (.dr (.ops r0 false) [0] []) (.seq (.dr (.ops r1 false) [5,6] []) (.seq (.dr (.ops r2 true) [7,8,9,10,11,12,13,14,15,16,17] []) (.seq (.dr (.ops r3 false) [1,2,3,4,18,19,20,21,22,23,24,25,26,27,28,29,30,31,32] []) .ret))))
end law27_known
def law27_known:AFn:=⟨0,law27_known.c,[.tmp 0],false⟩
namespace law27_StatespaceForms
def r0:List AI:=[o 4 (.mov (.c (.bool false)))]
def r1:List AI:=[m 18 0,m 19 1,o 20 (.call 214 [18,19]),o 5 (.alloc 5 [.nil,.nil]),n (.st 2 5 20)]
def r2:List AI:=[o 22 (.ld true 2 5),o 23 (.call 207 [22]),m 21 23,o 24 (.ext 21 0),o 25 (.ext 21 1),o 6 (.alloc 6 [.nil,.nil,.nil,(.bool false),.nil,.nil]),
 n (.st 6 6 24),m 7 25]
def r3:List AI:=[o 27 (.ld true 2 5),o 28 (.call 211 [27]),m 26 28,o 29 (.ext 26 0),o 30 (.ext 26 1),o 8 (.alloc 8 [.nil,.nil,.nil,(.bool false),.nil,.nil]),
 n (.st 6 8 29),m 9 30]
def r4:List AI:=[o 32 (.ld true 2 5),o 33 (.call 208 [32]),m 31 33,o 34 (.ext 31 0),o 35 (.ext 31 1),o 10 (.alloc 10 [.nil,.nil,.nil,(.bool false),.nil,.nil]),
 n (.st 6 10 34),m 11 35]
def r5:List AI:=[o 37 (.ld true 2 5),o 38 (.call 213 [37]),m 36 38,o 39 (.ext 36 0),o 40 (.ext 36 1),o 12 (.alloc 12 [.nil,.nil,.nil,(.bool false),.nil,.nil]),
 n (.st 6 12 39),m 13 40]
def r6:List AI:=[o 42 (.ld true 6 6),o 43 (.call 189 [42]),m 41 43,o 44 (.ext 41 0),o 45 (.ext 41 1),o 14 (.alloc 14 [.nil,.nil]),n (.st 2 14 44),m 15 45]
def r7:List AI:=[o 47 (.ld true 6 10),o 48 (.call 189 [47]),m 46 48,o 49 (.ext 46 0),o 50 (.ext 46 1),o 16 (.alloc 16 [.nil,.nil]),n (.st 2 16 49),m 17 50]
def r8:List AI:=[o 51 (.call 215 []),m 52 51,g 53 52 true (.mov 7),g 54 52 true (.bin .eql 53 (k 0)),o 55 (.pick 52 54 (.c (.bool false))),m 56 55,g 57 56 true (.mov 9),
 g 58 56 true (.bin .eql 57 (k 0)),o 59 (.pick 56 58 (.c (.bool false))),m 60 59,g 61 60 true (.mov 11),g 62 60 true (.bin .eql 61 (k 0)),
 o 63 (.pick 60 62 (.c (.bool false))),m 64 63,g 65 64 true (.mov 13),g 66 64 true (.bin .eql 65 (k 0)),o 67 (.pick 64 66 (.c (.bool false))),m 68 67,
 g 69 68 true (.mov 15),g 70 68 true (.bin .eql 69 (k 0)),o 71 (.pick 68 70 (.c (.bool false))),m 72 71,g 73 72 true (.mov 17),
 g 74 72 true (.bin .eql 73 (k 0)),o 75 (.pick 72 74 (.c (.bool false))),m 76 75,g 77 76 true (.ld true 6 6),g 78 76 true (.ld true 6 8),
 g 79 76 true (.call 167 [77,78]),o 80 (.pick 76 79 (.c (.bool false))),m 81 80,g 82 81 true (.ld true 6 10),g 83 81 true (.ld true 6 12),
 g 84 81 true (.call 167 [82,83]),o 85 (.pick 81 84 (.c (.bool false))),m 86 85,g 87 86 true (.ld true 2 14),g 88 86 true (.ld true 2 5),
 g 89 86 true (.call 176 [87,88]),o 90 (.pick 86 89 (.c (.bool false))),m 91 90,g 92 91 true (.ld true 2 16),g 93 91 true (.ld true 2 5),
 g 94 91 true (.call 176 [92,93]),o 95 (.pick 91 94 (.c (.bool false))),m 4 95]
def c:ACode:=(.seq (.dr (.ops r0 false) [4] []) (.seq (.dr (.ops r1 false) [0,1,18,19,20] []) (.seq (.dr (.ops r2 false) [21,22,23,24,25] []) (.seq (.dr (.ops r3 false) [26,27,28,29,30] []) (.seq (.dr (.ops r4 false) [31,32,33,34,35] []) (.seq (.dr (.ops r5 false) [36,37,38,39,40] []) (.seq (.dr (.ops r6 false) [41,42,43,44,45] []) (.seq (.dr (.ops r7 false) [46,47,48,49,50] []) (.seq (.dr (.ops r8 false) [5,6,7,8,9,10,11,12,13,14,15,16,17,51,52,53,54,55,56,57,58,59,60,61,62,63,64,65,66,67,68,69,70,71,72,73,74,75,76,77,78,79,80,81,82,83,84,85,86,87,88,89,90,91,92,93,94,95] []) .ret)))))))))
end law27_StatespaceForms
def law27_StatespaceForms:AFn:=⟨2,law27_StatespaceForms.c,[.tmp 4],false⟩
structure LawFLib (L:Lib):Prop extends StGLib L,ModGLib L,BldGLib L,RatsGLib L where
 law27_filter:L 214=some F.law27_filter
 law27_known:L 215=some F.law27_known
 law27_StatespaceForms:L 216=some F.law27_StatespaceForms
end Go.Eng.F

namespace Go.Eng
section
variable {L:Lib}
def Cl.le (C C':Cl):Prop:=(∀ f vs r,C.pure f vs=some r→C'.pure f vs=some r)∧(∀ f vs o r,C.inn f vs o=some r→C'.inn f vs o=some r)∧C.num=C'.num
theorem adoptR_mono {x y:Option (AV × Own)} {r:Nat × List (List AV)} (h : ∀ q,x=some q→y=some q) (hr:adoptR x=some r):adoptR y=some r:=by
 cases x with
 | none=>simp [adoptR]at hr
 | some q=>rw[h q rfl];exact hr
theorem eff_mono {C C':Cl} (h:C.le C') {ban:List Nat} {ρ:Opd→AV} {own:Own} {op:AOp} {E:Eff} (he:eff C ban ρ own op=some E):eff C' ban ρ own op=some E:=by
 cases op with
 | call f xs =>
  simp only[eff]at he ⊢
  split at he
  ·rename_i vs hvs
   simp only[Option.map_eq_some_iff]at he ⊢
   obtain ⟨r,hr,rfl⟩:=he
   exact ⟨r,h.1 f vs r hr,rfl⟩
  ·cases he
 | calli f xs =>
  simp only[eff,Option.map_eq_some_iff]at he ⊢
  obtain ⟨r,hr,rfl⟩:=he
  exact ⟨r,h.2.1 f _ own r hr,rfl⟩
 | mkf p f xs=>simp only[eff]at he ⊢;rw[←h.2.2];exact he
 | callr s f xs =>
  simp only[eff]at he ⊢
  split at he
  ·rename_i vs hvs
   simp only[Option.map_eq_some_iff]at he ⊢
   obtain ⟨r,hr,rfl⟩:=he
   exact ⟨r,adoptR_mono (h.2.1 f vs Own.emp) hr,rfl⟩
  ·cases he
 | callq f xs =>
  simp only[eff]at he ⊢
  split at he
  ·rename_i hq
   rw[if_pos hq]
   split at he
   ·rename_i r hr
    rw[h.1 _ _ r hr]
    exact he
   ·cases he
  ·cases he
 | callv x xs =>
  simp only[eff]at he ⊢
  rw[←h.2.2]
  split at he
  ·split at he
   ·rename_i hg
    rw[if_pos hg]
    split at he
    ·split at he
     ·rename_i vs hvs
      simp only[Option.map_eq_some_iff]at he ⊢
      obtain ⟨r,hr,rfl⟩:=he
      exact ⟨r,h.1 _ vs r hr,rfl⟩
     ·cases he
    ·simp only[Option.map_eq_some_iff]at he ⊢
     obtain ⟨r,hr,rfl⟩:=he
     exact ⟨r,h.2.1 _ _ own r hr,rfl⟩
    ·cases he
   ·cases he
  ·cases he
 | _=>exact he
theorem stepI_mono {C C':Cl} (h:C.le C') {o:AI} {st st':St} (he:stepI C o st=some st'):stepI C' o st=some st':=by
 unfold stepI at he ⊢
 split at he
 ·simp only[Option.map_eq_some_iff]at he ⊢
  obtain ⟨E,h1,h2⟩:=he
  exact ⟨E,eff_mono h h1,h2⟩
 ·exact he
 ·exact he
theorem stepL_mono {C C':Cl} (h:C.le C') : ∀ {l:List AI} {st st':St},stepL C l st=some st'→stepL C' l st=some st'
 | [],st,st',he=>he
 | o::r,st,st',he=>by
  simp only[stepL]at he ⊢
  cases hs:stepI C o st with
  | none=>simp [hs]at he
  | some st1 =>
   rw[stepI_mono h hs]
   simp only[hs]at he
   exact stepL_mono h he
theorem run_mono {C C':Cl} (h:C.le C') : ∀ {n n':Nat} {k:List It} {st st':St},n≤n'→run C n k st=some st'→run C' n' k st=some st':=by
 intro n
 induction n with
 | zero=>intro n' k st st' _ hr;simp [run]at hr
 | succ n ih =>
  intro n' k st st' hn hr
  obtain ⟨q,rfl⟩ : ∃ q,n'=q+1:=⟨n'-1,by omega⟩
  have hq:n≤q:=by omega
  cases k with
  | nil=>exact hr
  | cons it k =>
   cases it with
   | blk id=>simp only[run]at hr ⊢;exact ih hq hr
   | drp ts ss=>simp only[run]at hr ⊢;exact ih hq hr
   | lp c=>simp only[run]at hr ⊢;exact ih hq hr
   | code c =>
    cases c with
    | skip=>simp only[run]at hr ⊢;exact ih hq hr
    | ops l d =>
     simp only[run]at hr ⊢
     cases hs:stepL C l st with
     | none=>simp [hs]at hr
     | some st1 =>
      rw[stepL_mono h hs]
      simp only[hs]at hr
      exact ih hq hr
    | dr c ts ss=>simp only[run]at hr ⊢;exact ih hq hr
    | scope c=>simp only[run]at hr ⊢;exact ih hq hr
    | seq a b=>simp only[run]at hr ⊢;exact ih hq hr
    | cond x a b =>
     simp only[run]at hr ⊢
     split at hr
     ·exact ih hq hr
     ·exact ih hq hr
     ·cases hr
    | block id c=>simp only[run]at hr ⊢;exact ih hq hr
    | loop c=>simp only[run]at hr ⊢;exact ih hq hr
    | exit id =>
     simp only[run]at hr ⊢
     split at hr
     ·exact ih hq hr
     ·cases hr
    | ret=>exact hr
theorem pureP_mono {I I':List AV→Option (AV × Own)} (hI : ∀ vs r,I vs=some r→I' vs=some r) {vs:List AV} {r:AV} (h:pureP I vs=some r):pureP I' vs=some r:=by
 unfold pureP at h ⊢
 cases he:I vs with
 | none=>simp [he]at h
 | some x=>rw[hI vs _ he];simpa [he] using h
theorem pureS_mono {b:Bool} {I I':List AV→Option (AV × Own)} (hI : ∀ vs r,I vs=some r→I' vs=some r) {vs:List AV} {r:AV} (h:pureS b I vs=some r):pureS b I' vs=some r:=by
 unfold pureS at h ⊢
 split at h
 ·split at h
  ·rename_i r1 r2 h1 h2
   rw[pureP_mono hI h1,pureP_mono hI h2]
   exact h
  ·cases h
 ·exact pureP_mono hI h
theorem ev_mono : ∀ (n:Nat),(clAt L n).le (clAt L (n+1)):=by
 have inn : ∀ n,(∀ f vs o r,evI L n f vs o=some r→evI L (n+1) f vs o=some r) → ∀ f vs r,evP L n f vs=some r→evP L (n+1) f vs=some r:=by
  intro n hI f vs r h
  exact pureS_mono (fun vs r h=>hI f vs _ r h) h
 intro n
 induction n with
 | zero =>
  have : ∀ f vs o r,evI L 0 f vs o=some r→evI L 1 f vs o=some r:=fun f vs o r h=>by simp [evI]at h
  exact ⟨inn 0 this,this,rfl⟩
 | succ n ih =>
  have : ∀ f vs o r,evI L (n+1) f vs o=some r→evI L (n+2) f vs o=some r:=fun f vs o r h=>by
   rw[evI_succ]at h ⊢
   cases hL:L f with
   | none=>simp [hL]at h
   | some fn =>
    simp only[hL]at h ⊢
    split at h
    ·rename_i hp
     rw[if_pos hp]
     cases hr:run (clAt L n) n [.code fn.body] ⟨initTm 0 vs,o⟩ with
     | none=>simp [hr]at h
     | some st =>
      rw[run_mono ih (Nat.le_succ n) hr]
      simpa [hr] using h
    ·cases h
  exact ⟨inn (n+1) this,this,rfl⟩
theorem cl_le {n n':Nat} (h:n≤n'):(clAt L n).le (clAt L n'):=by
 induction h with
 | refl=>exact ⟨fun _ _ _ h=>h,fun _ _ _ _ h=>h,rfl⟩
 | step _ ih=>exact ⟨fun f vs r h=>(ev_mono _).1 f vs r (ih.1 f vs r h),fun f vs o r h=>(ev_mono _).2.1 f vs o r (ih.2.1 f vs o r h),rfl⟩
def Ev (L:Lib) (f:Nat) (vs:List AV) (r:AV):Prop := ∃ n,evP L n f vs=some r
def EvD (L:Lib) (f:Nat) (vs:List AV) (r:AV):Prop := ∃ n,pureP (fun vs=>evI L n f vs Own.emp) vs=some r
def EvI (L:Lib) (f:Nat) (vs:List AV) (o:Own) (r:AV) (o':Own):Prop := ∃ n,evI L n f vs o=some (r,o')
def EvR (L:Lib) (f:Nat) (vs:List AV) (z:Nat) (es:List (List AV)):Prop := ∃ n,adoptR (evI L n f vs Own.emp)=some (z,es)
theorem Ev.det {f:Nat} {vs:List AV} {r r':AV} (h:Ev L f vs r) (h':Ev L f vs r'):r=r':=by
 obtain ⟨n,hn⟩:=h
 obtain ⟨n',hn'⟩:=h'
 have h1:=(cl_le (L:=L) (Nat.le_max_left n n')).1 f vs r hn
 have h2:=(cl_le (L:=L) (Nat.le_max_right n n')).1 f vs r' hn'
 rw[h1]at h2
 exact Option.some.inj h2
theorem EvI.det {f:Nat} {vs:List AV} {o:Own} {r r':AV} {o1 o2:Own} (h:EvI L f vs o r o1) (h':EvI L f vs o r' o2):r=r'∧o1=o2:=by
 obtain ⟨n,hn⟩:=h
 obtain ⟨n',hn'⟩:=h'
 have h1:=(cl_le (L:=L) (Nat.le_max_left n n')).2.1 f vs o _ hn
 have h2:=(cl_le (L:=L) (Nat.le_max_right n n')).2.1 f vs o _ hn'
 rw[h1]at h2
 simpa using h2
def AK (L:Lib) (k:List It) (st:St) (Q:St→Prop):Prop := ∃ n c st',run (clAt L c) n k st=some st'∧Q st'
def AO (L:Lib) (l:List AI) (k:List It) (st:St) (Q:St→Prop):Prop := ∃ n c st1 st',stepL (clAt L c) l st=some st1∧run (clAt L c) n k st1=some st'∧Q st'
variable {k:List It} {st:St} {Q:St→Prop}
theorem AK_step {it:It} {k':List It} {st1:St} (h : ∀ (C:Cl) (n:Nat),run C (n+1) (it::k) st=run C n k' st1):AK L (it::k) st Q↔AK L k' st1 Q:=by
 constructor
 ·rintro ⟨n,c,st',hr,hq⟩
  cases n with
  | zero=>simp [run]at hr
  | succ n=>exact ⟨n,c,st',by rw[←h];exact hr,hq⟩
 ·rintro ⟨n,c,st',hr,hq⟩
  exact ⟨n+1,c,st',by rw[h];exact hr,hq⟩
theorem AK_nil:AK L [] st Q↔Q st:=by
 constructor
 ·rintro ⟨n,c,st',hr,hq⟩
  cases n with
  | zero=>simp [run]at hr
  | succ n=>simp only[run,Option.some.injEq]at hr;exact hr ▸ hq
 ·exact fun h=>⟨1,0,st,rfl,h⟩
theorem AK_blk {id:Nat}:AK L (.blk id::k) st Q↔AK L k st Q:=AK_step fun _ _=>rfl
theorem AK_drp {ts ss:List Nat}:AK L (.drp ts ss::k) st Q↔AK L k ⟨tdrop st.tm ts,st.own.drop ss⟩ Q:=AK_step fun _ _=>rfl
theorem AK_lp {c:ACode}:AK L (.lp c::k) st Q↔AK L (.code c :: .lp c::k) st Q:=AK_step fun _ _=>rfl
theorem AK_skip:AK L (.code .skip::k) st Q↔AK L k st Q:=AK_step fun _ _=>rfl
theorem AK_dr {c:ACode} {ts ss:List Nat}:AK L (.code (.dr c ts ss)::k) st Q↔AK L (.code c :: .drp ts ss::k) st Q:=AK_step fun _ _=>rfl
theorem AK_scope {c:ACode}:AK L (.code (.scope c)::k) st Q↔AK L (.code c::k) st Q:=AK_step fun _ _=>rfl
theorem AK_seq {a b:ACode}:AK L (.code (.seq a b)::k) st Q↔AK L (.code a :: .code b::k) st Q:=AK_step fun _ _=>rfl
theorem AK_block {id:Nat} {c:ACode}:AK L (.code (.block id c)::k) st Q↔AK L (.code c :: .blk id::k) st Q:=AK_step fun _ _=>rfl
theorem AK_loop {c:ACode}:AK L (.code (.loop c)::k) st Q↔AK L (.code c :: .lp c::k) st Q:=AK_step fun _ _=>rfl
theorem AK_exit {id:Nat} {k':List It} (h:exitA id k=some k'):AK L (.code (.exit id)::k) st Q↔AK L k' st Q:=AK_step fun C n=>by simp [run,h]
theorem AK_ret:AK L (.code .ret::k) st Q↔Q st:=by
 constructor
 ·rintro ⟨n,c,st',hr,hq⟩
  cases n with
  | zero=>simp [run]at hr
  | succ n=>simp only[run,Option.some.injEq]at hr;exact hr ▸ hq
 ·exact fun h=>⟨1,0,st,rfl,h⟩
theorem AK_cond {x:Opd} {a b:ACode} {t:Bool} (h:st.ev x = .bool t):AK L (.code (.cond x a b)::k) st Q↔if t=true then AK L (.code a::k) st Q else AK L (.code b::k) st Q:=by
 cases t
 ·simpa using AK_step (k' := .code b::k) (st1:=st) fun C n=>by simp [run,h]
 ·simpa using AK_step (k' := .code a::k) (st1:=st) fun C n=>by simp [run,h]
theorem AK_ops {l:List AI} {d:Bool}:AK L (.code (.ops l d)::k) st Q↔AO L l k st Q:=by
 constructor
 ·rintro ⟨n,c,st',hr,hq⟩
  cases n with
  | zero=>simp [run]at hr
  | succ n =>
   simp only[run]at hr
   split at hr
   ·rename_i st1 hs
    exact ⟨n,c,st1,st',hs,hr,hq⟩
   ·cases hr
 ·rintro ⟨n,c,st1,st',hs,hr,hq⟩
  exact ⟨n+1,c,st',by simp [run,hs,hr],hq⟩
theorem AO_nil:AO L [] k st Q↔AK L k st Q:=by
 constructor
 ·rintro ⟨n,c,st1,st',hs,hr,hq⟩
  simp only[stepL,Option.some.injEq]at hs
  exact ⟨n,c,st',hs ▸ hr,hq⟩
 ·rintro ⟨n,c,st',hr,hq⟩
  exact ⟨n,c,st,st',rfl,hr,hq⟩
theorem AO_step {o:AI} {l:List AI} {st1:St} (h : ∀ C,stepI C o st=some st1):AO L (o::l) k st Q↔AO L l k st1 Q:=by
 constructor
 ·rintro ⟨n,c,st2,st',hs,hr,hq⟩
  simp only[stepL,h]at hs
  exact ⟨n,c,st2,st',hs,hr,hq⟩
 ·rintro ⟨n,c,st2,st',hs,hr,hq⟩
  exact ⟨n,c,st2,st',by simpa only[stepL,h] using hs,hr,hq⟩
theorem AO_not {d:Option Nat} {op:AOp} {g:Option (Nat × Bool)} {ban:List Nat} {l:List AI} (h:guardA st g=some false):AO L (⟨d,op,g,ban⟩::l) k st Q↔AO L l k (st.dst d (.tup [])) Q :=
 AO_step fun C=>by simp [stepI,h]
theorem clAt_num (c:Nat):(clAt L c).num=L.num:=rfl
theorem AO_opL {d:Option Nat} {op:AOp} {g:Option (Nat × Bool)} {ban:List Nat} {l:List AI} {E:Eff} (h:guardA st g=some true) (he : ∀ c,eff (clAt L c) ban st.ev st.own op=some E):AO L (⟨d,op,g,ban⟩::l) k st Q↔AO L l k (st.app d E) Q:=by
 have h : ∀ c,stepI (clAt L c) ⟨d,op,g,ban⟩ st=some (st.app d E):=fun c=>by simp [stepI,h,he]
 constructor
 ·rintro ⟨n,c,st2,st',hs,hr,hq⟩
  simp only[stepL,h]at hs
  exact ⟨n,c,st2,st',hs,hr,hq⟩
 ·rintro ⟨n,c,st2,st',hs,hr,hq⟩
  exact ⟨n,c,st2,st',by simpa only[stepL,h] using hs,hr,hq⟩
theorem AO_call {d:Option Nat} {f:Nat} {xs:List Opd} {g:Option (Nat × Bool)} {ban:List Nat} {l:List AI} {vs:List AV} {r:AV} (h:guardA st g=some true) (hv:(xs.map st.ev).mapM (snapA (st.own.hide ban) true)=some vs) (hr:Ev L f vs r) :
  AO L (⟨d,.call f xs,g,ban⟩::l) k st Q↔AO L l k (st.dst d r) Q:=by
 have hst : ∀ c r',evP L c f vs=some r'→stepI (clAt L c) ⟨d,.call f xs,g,ban⟩ st=some (st.dst d r'):=fun c r' hc=>by
  have hc':(clAt L c).pure f vs=some r':=hc
  simp [stepI,h,eff,hv,hc',St.app]
 constructor
 ·rintro ⟨n,c,st2,st',hs,hrn,hq⟩
  simp only[stepL]at hs
  cases hI:stepI (clAt L c) ⟨d,.call f xs,g,ban⟩ st with
  | none=>simp [hI]at hs
  | some st1 =>
   simp only[hI]at hs
   cases hp:evP L c f vs with
   | none =>
    have hc':(clAt L c).pure f vs=none:=hp
    simp [stepI,h,eff,hv,hc']at hI
   | some r' =>
    obtain rfl:r'=r:=Ev.det ⟨c,hp⟩ hr
    rw[hst c r' hp]at hI
    obtain rfl:=Option.some.inj hI
    exact ⟨n,c,st2,st',hs,hrn,hq⟩
 ·rintro ⟨n,c,st2,st',hs,hrn,hq⟩
  obtain ⟨c',hc'⟩:=hr
  have l1:=cl_le (L:=L) (Nat.le_max_left c c')
  have l2:=cl_le (L:=L) (Nat.le_max_right c c')
  refine ⟨n,max c c',st2,st',?_,run_mono l1 (Nat.le_refl n) hrn,hq⟩
  simp only[stepL]
  rw[hst (max c c') r (l2.1 f vs r hc')]
  exact stepL_mono l1 hs
theorem AO_callp {d:Option Nat} {f:Nat} {x:Opd} {xs:List Opd} {g:Option (Nat × Bool)} {ban:List Nat} {l:List AI} {vs:List AV} {r:AV} (h:guardA st g=some true) (hx:st.ev x = .fn true f (L.num f) []) (hv:(xs.map st.ev).mapM (snapA st.own true)=some vs) (hr:Ev L f vs r) :
  AO L (⟨d,.callv x xs,g,ban⟩::l) k st Q↔AO L l k (st.dst d r) Q:=by
 have hst : ∀ c r',evP L c f vs=some r'→stepI (clAt L c) ⟨d,.callv x xs,g,ban⟩ st=some (st.dst d r'):=fun c r' hc=>by
  have hc':(clAt L c).pure f vs=some r':=hc
  simp [stepI,h,eff,hx,clAt_num,hv,hc',St.app]
 constructor
 ·rintro ⟨n,c,st2,st',hs,hrn,hq⟩
  simp only[stepL]at hs
  cases hI:stepI (clAt L c) ⟨d,.callv x xs,g,ban⟩ st with
  | none=>simp [hI]at hs
  | some st1 =>
   simp only[hI]at hs
   cases hp:evP L c f vs with
   | none =>
    have hc':(clAt L c).pure f vs=none:=hp
    simp [stepI,h,eff,hx,clAt_num,hv,hc']at hI
   | some r' =>
    obtain rfl:r'=r:=Ev.det ⟨c,hp⟩ hr
    rw[hst c r' hp]at hI
    obtain rfl:=Option.some.inj hI
    exact ⟨n,c,st2,st',hs,hrn,hq⟩
 ·rintro ⟨n,c,st2,st',hs,hrn,hq⟩
  obtain ⟨c',hc'⟩:=hr
  have l1:=cl_le (L:=L) (Nat.le_max_left c c')
  have l2:=cl_le (L:=L) (Nat.le_max_right c c')
  refine ⟨n,max c c',st2,st',?_,run_mono l1 (Nat.le_refl n) hrn,hq⟩
  simp only[stepL]
  rw[hst (max c c') r (l2.1 f vs r hc')]
  exact stepL_mono l1 hs
theorem AO_callq {d:Option Nat} {f:Nat} {xs:List Opd} {g:Option (Nat × Bool)} {ban:List Nat} {l:List AI} {r:AV} (h:guardA st g=some true) (hq:(xs.map st.ev).all dq=true) (hr:Ev L f ((xs.map st.ev).map unl) r) (hfl:FlatR r) :
  AO L (⟨d,.callq f xs,g,ban⟩::l) k st Q↔AO L l k (st.dst d (lnd r)) Q:=by
 have hst : ∀ c,evP L c f ((xs.map st.ev).map unl)=some r→stepI (clAt L c) ⟨d,.callq f xs,g,ban⟩ st=some (st.dst d (lnd r)):=fun c hc=>by
  have hc':(clAt L c).pure f ((xs.map st.ev).map unl)=some r:=hc
  simp only[stepI,h,eff]
  rw[if_pos hq,hc']
  simp only[if_pos hfl,Option.map_some,St.app]
 constructor
 ·rintro ⟨n,c,st2,st',hs,hrn,hq'⟩
  simp only[stepL]at hs
  cases hp:evP L c f ((xs.map st.ev).map unl) with
  | none =>
   have hc':(clAt L c).pure f ((xs.map st.ev).map unl)=none:=hp
   simp only[stepI,h,eff]at hs
   rw[if_pos hq,hc']at hs
   simp at hs
  | some r' =>
   obtain rfl:r'=r:=Ev.det ⟨c,hp⟩ hr
   rw[hst c hp]at hs
   exact ⟨n,c,st2,st',hs,hrn,hq'⟩
 ·rintro ⟨n,c,st2,st',hs,hrn,hq'⟩
  obtain ⟨c',hc'⟩:=hr
  have l1:=cl_le (L:=L) (Nat.le_max_left c c')
  have l2:=cl_le (L:=L) (Nat.le_max_right c c')
  refine ⟨n,max c c',st2,st',?_,run_mono l1 (Nat.le_refl n) hrn,hq'⟩
  simp only[stepL]
  rw[hst (max c c') (l2.1 f _ r hc')]
  exact stepL_mono l1 hs
theorem AO_callr {d:Option Nat} {s f:Nat} {xs:List Opd} {g:Option (Nat × Bool)} {ban:List Nat} {l:List AI} {vs:List AV} {z:Nat} {es:List (List AV)} (h:guardA st g=some true) (hv:(xs.map st.ev).mapM (snapN (st.own.hide ban) true)=some vs) (hr:EvR L f vs z es)
  (ha:AO L l k (st.app d (.new s ⟨z,es⟩ (fun t => .row s t z 0 es.length))) Q):AO L (⟨d,.callr s f xs,g,ban⟩::l) k st Q:=by
 obtain ⟨n,c,st2,st',hs,hrn,hq⟩:=ha
 obtain ⟨c',hc'⟩:=hr
 have l1:=cl_le (L:=L) (Nat.le_max_left c c')
 have l2:=cl_le (L:=L) (Nat.le_max_right c c')
 have hc2:adoptR ((clAt L (max c c')).inn f vs Own.emp)=some (z,es):=adoptR_mono (l2.2.1 f vs Own.emp) hc'
 refine ⟨n,max c c',st2,st',?_,run_mono l1 (Nat.le_refl n) hrn,hq⟩
 simp only[stepL]
 have:stepI (clAt L (max c c')) ⟨d,.callr s f xs,g,ban⟩ st=some (st.app d (.new s ⟨z,es⟩ (fun t => .row s t z 0 es.length))):=by
  simp only[stepI,h,eff,hv,hc2,Option.map_some]
 rw[this]
 exact stepL_mono l1 hs
theorem AO_calli {d:Option Nat} {f:Nat} {xs:List Opd} {g:Option (Nat × Bool)} {ban:List Nat} {l:List AI} {r:AV} {o':Own} (h:guardA st g=some true) (hr:EvI L f (xs.map st.ev) st.own r o') :
  AO L (⟨d,.calli f xs,g,ban⟩::l) k st Q↔AO L l k { (st.dst d r) with own:=o' } Q:=by
 have hst : ∀ c r' o1,evI L c f (xs.map st.ev) st.own=some (r',o1)→stepI (clAt L c) ⟨d,.calli f xs,g,ban⟩ st=some { (st.dst d r') with own:=o1 }:=fun c r' o1 hc=>by
  have hc':(clAt L c).inn f (xs.map st.ev) st.own=some (r',o1):=hc
  simp [stepI,h,eff,hc',St.app]
 constructor
 ·rintro ⟨n,c,st2,st',hs,hrn,hq⟩
  simp only[stepL]at hs
  cases hI:stepI (clAt L c) ⟨d,.calli f xs,g,ban⟩ st with
  | none=>simp [hI]at hs
  | some st1 =>
   simp only[hI]at hs
   cases hp:evI L c f (xs.map st.ev) st.own with
   | none =>
    have hc':(clAt L c).inn f (xs.map st.ev) st.own=none:=hp
    simp [stepI,h,eff,hc']at hI
   | some x =>
    obtain ⟨r',o1⟩:=x
    obtain ⟨rfl,rfl⟩:=EvI.det ⟨c,hp⟩ hr
    rw[hst c r' o1 hp]at hI
    obtain rfl:=Option.some.inj hI
    exact ⟨n,c,st2,st',hs,hrn,hq⟩
 ·rintro ⟨n,c,st2,st',hs,hrn,hq⟩
  obtain ⟨c',hc'⟩:=hr
  have l1:=cl_le (L:=L) (Nat.le_max_left c c')
  have l2:=cl_le (L:=L) (Nat.le_max_right c c')
  refine ⟨n,max c c',st2,st',?_,run_mono l1 (Nat.le_refl n) hrn,hq⟩
  simp only[stepL]
  rw[hst (max c c') r o' (l2.2.1 f _ _ _ hc')]
  exact stepL_mono l1 hs
theorem AO_callv {d:Option Nat} {f:Nat} {cs:List AV} {x:Opd} {xs:List Opd} {g:Option (Nat × Bool)} {ban:List Nat} {l:List AI} {r:AV} {o':Own} (h:guardA st g=some true) (hx:st.ev x = .fn false f (L.num f) cs) (hr:EvI L f (xs.map st.ev++cs) st.own r o') :
  AO L (⟨d,.callv x xs,g,ban⟩::l) k st Q↔AO L l k { (st.dst d r) with own:=o' } Q:=by
 have hst : ∀ c r' o1,evI L c f (xs.map st.ev++cs) st.own=some (r',o1)→stepI (clAt L c) ⟨d,.callv x xs,g,ban⟩ st=some { (st.dst d r') with own:=o1 }:=fun c r' o1 hc=>by
  have hc':(clAt L c).inn f (xs.map st.ev++cs) st.own=some (r',o1):=hc
  simp [stepI,h,eff,hx,clAt_num,hc',St.app]
 constructor
 ·rintro ⟨n,c,st2,st',hs,hrn,hq⟩
  simp only[stepL]at hs
  cases hI:stepI (clAt L c) ⟨d,.callv x xs,g,ban⟩ st with
  | none=>simp [hI]at hs
  | some st1 =>
   simp only[hI]at hs
   cases hp:evI L c f (xs.map st.ev++cs) st.own with
   | none =>
    have hc':(clAt L c).inn f (xs.map st.ev++cs) st.own=none:=hp
    simp [stepI,h,eff,hx,clAt_num,hc']at hI
   | some x =>
    obtain ⟨r',o1⟩:=x
    obtain ⟨rfl,rfl⟩:=EvI.det ⟨c,hp⟩ hr
    rw[hst c r' o1 hp]at hI
    obtain rfl:=Option.some.inj hI
    exact ⟨n,c,st2,st',hs,hrn,hq⟩
 ·rintro ⟨n,c,st2,st',hs,hrn,hq⟩
  obtain ⟨c',hc'⟩:=hr
  have l1:=cl_le (L:=L) (Nat.le_max_left c c')
  have l2:=cl_le (L:=L) (Nat.le_max_right c c')
  refine ⟨n,max c c',st2,st',?_,run_mono l1 (Nat.le_refl n) hrn,hq⟩
  simp only[stepL]
  rw[hst (max c c') r o' (l2.2.1 f _ _ _ hc')]
  exact stepL_mono l1 hs
theorem AK_mono {Q':St→Prop} (h:AK L k st Q) (hq : ∀ s,Q s→Q' s):AK L k st Q':=by
 obtain ⟨n,c,st',hr,hh⟩:=h
 exact ⟨n,c,st',hr,hq _ hh⟩
theorem EvI.intro {f:Nat} {fn:AFn} {vs:List AV} {o:Own} {r:AV} {o':Own} (hL:L f=some fn) (hp:vs.length=fn.pars) (h:AK L [.code fn.body] ⟨initTm 0 vs,o⟩ (fun st=>(fn.res.mapM (resOf st)).map resVal=some r∧st.own=o')):EvI L f vs o r o':=by
 obtain ⟨n,c,st',hr,h1,h2⟩:=h
 refine ⟨max n c+1,?_⟩
 rw[evI_succ]
 simp only[hL,hp,if_true]
 rw[run_mono (cl_le (L:=L) (Nat.le_max_right n c)) (Nat.le_max_left n c) hr]
 cases hm:fn.res.mapM (resOf st') with
 | none=>rw[hm]at h1;cases h1
 | some rs =>
  rw[hm]at h1
  simp only[Option.map_some,Option.some.injEq]at h1
  simp [hm,h1,h2]
theorem EvD.intro {f:Nat} {fn:AFn} {vs:List AV} {r:AV} (hL:L f=some fn) (hp:vs.length=fn.pars) (h:AK L [.code fn.body] ⟨initTm 0 vs,Own.emp⟩ (fun st=>((fn.res.mapM (resOf st)).map resVal).bind (snapR st.own false)=some r∧Clean r)):EvD L f vs r:=by
 obtain ⟨n,c,st',hr,h1,h2⟩:=h
 cases hm:(fn.res.mapM (resOf st')).map resVal with
 | none=>rw[hm]at h1;cases h1
 | some r0 =>
  rw[hm]at h1
  simp only[Option.bind_some]at h1
  obtain ⟨q,hq⟩:=EvI.intro (o:=Own.emp) (r:=r0) (o':=st'.own) hL hp ⟨n,c,st',hr,hm,rfl⟩
  refine ⟨q,?_⟩
  unfold pureP
  simp [hq,h1,h2]
theorem EvD.ev {f:Nat} {fn:AFn} {vs:List AV} {r:AV} (hL:L f=some fn) (h:EvD L f vs r) (hs:fn.spl=false:=by rfl):Ev L f vs r:=by
 obtain ⟨n,h⟩:=h
 have hs:L.spl f=false:=by simp only[Lib.spl,hL,hs]
 exact ⟨n,by unfold evP pureS;rw[hs];exact h⟩
theorem EvD.cons {f:Nat} {q:Bool} {e:List AV} {es:List (List AV)} {vs:List AV} {r:AV} (h:EvD L f (.sl q (e::es)::vs) r):Ev L f (.sl q (e::es)::vs) r:=by
 obtain ⟨n,h⟩:=h
 refine ⟨n,?_⟩
 unfold evP pureS
 split
 ·rename_i heq;simp at heq
 ·exact h
theorem EvD.nil {f:Nat} {fn:AFn} {q:Bool} {vs:List AV} {r:AV} (hL:L f=some fn) (h1:EvD L f (.con (.bool true)::vs) r) (h2:EvD L f (.con (.bool false)::vs) r) (hs:fn.spl=true:=by rfl):Ev L f (.sl q []::vs) r:=by
 obtain ⟨n,h1⟩:=h1
 obtain ⟨n',h2⟩:=h2
 have hs:L.spl f=true:=by simp only[Lib.spl,hL,hs]
 have k1:=pureP_mono (fun vs r h=>(cl_le (L:=L) (Nat.le_max_left n n')).2.1 f vs Own.emp r h) h1
 have k2:=pureP_mono (fun vs r h=>(cl_le (L:=L) (Nat.le_max_right n n')).2.1 f vs Own.emp r h) h2
 refine ⟨max n n',?_⟩
 unfold evP pureS
 rw[hs]
 simp only
 have k1':pureP (fun vs=>evI L (max n n') f vs Own.emp) (.con (.bool true)::vs)=some r:=k1
 have k2':pureP (fun vs=>evI L (max n n') f vs Own.emp) (.con (.bool false)::vs)=some r:=k2
 rw[k1',k2']
 simp
theorem Ev.intro {f:Nat} {fn:AFn} {vs:List AV} {r:AV} (hL:L f=some fn) (hp:vs.length=fn.pars) (h:AK L [.code fn.body] ⟨initTm 0 vs,Own.emp⟩ (fun st=>((fn.res.mapM (resOf st)).map resVal).bind (snapR st.own false)=some r∧Clean r)) (hs:fn.spl=false:=by rfl):Ev L f vs r :=
 (EvD.intro hL hp h).ev hL hs
end
end Go.Eng

namespace Go.Eng
section
variable {L:Lib} {k:List It} {tm:Tm} {own:Own} {Q:St→Prop} {l:List AI} {ban:List Nat} {d:Nat}
theorem tget_cons (i:Nat) (v:AV) (r:Tm) (j:Nat):tget ((i,v)::r) j=if j=i then v else tget r j:=rfl
theorem tget_nil (j:Nat):tget [] j = .any:=rfl
theorem tdrop_cons (i:Nat) (v:AV) (r:Tm) (l:List Nat):tdrop ((i,v)::r) l=if l.contains i then tdrop r l else (i,v)::tdrop r l:=rfl
theorem tdrop_nil (l:List Nat):tdrop [] l=[]:=rfl
theorem initTm_cons (i:Nat) (v:AV) (r:List AV):initTm i (v::r)=(i,v)::initTm (i+1) r:=rfl
end
end Go.Eng
