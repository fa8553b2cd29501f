/-
  Functions of the program, as the abstract machine reads them (group InvG). Written by a program (gen.py) off the model's own reading of the translation; the seat's check ties them to it.
-/
import Derived.Test.YtpefogchdoedbaaGreatB1
import Derived.Test.YtpefogchdoedbaaGreatB4
import Derived.Test.YtpefogchdoedbaaGreatB3
import Derived.Calls
import Derived.IntWalk
set_option linter.unusedSimpArgs false
set_option linter.unusedVariables false
set_option linter.unnecessarySimpa false
namespace Go.Eng.F
open C
namespace LI
def r0:List AI:=[o 2 (.box 2 0),o 3 (.box 3 1),o 4 (.alloc 4 [(.bool false),.nil,.nil])]
def r1:List AI:=[o 8 (.ld true 3 2),o 9 (.ld true 3 3),o 10 (.call 154 [8,9]),m 7 10,o 11 (.ext 7 0),o 12 (.ext 7 1),o 5 (.alloc 5 [(.bool false),.nil,.nil]),
 n (.st 3 5 11),m 6 12]
def r2:List AI:=[m 13 6,o 14 (.bin .neq 13 (k 0))]
def r3:List AI:=[o 15 (.call 124 [(k 0)]),n (.st 3 4 15)]
def r4:List AI:=[o 16 (.ld true 3 5),n (.st 3 4 16)]
def c:AL:=(.seq (.dr (.ops r0 false) [0,1] []) (.seq (.dr (.ops r1 false) [2,3,7,8,9,10,11,12] []) (.seq (.seq (.dr (.ops r2 false) [6,13] []) (.cond 14 (.seq (.dr (.ops r3 false) [5,14,15] []) .ret) .skip)) (.seq (.dr (.ops r4 false) [5,14,16] []) .ret))))
end LI
def LI:AFn:=⟨2,LI.c,[.cell 4 true 3],false⟩
namespace LQ
def r0:List AI:=[o 2 (.mov (.c .nil))]
def r1:List AI:=[o 3 (.vrow 277003 1)]
def r2:List AI:=[m 9 0,o 10 (.len 9),o 11 (.mov (k 0))]
def r3:List AI:=[o 12 (.bin .lss 11 10)]
def r4:List AI:=[o 13 (.iadr none 1 9 11),o 14 (.ld false 1 13),m 5 14]
def r5:List AI:=[o 6 (.vrow 277006 3)]
def r6:List AI:=[m 15 5,o 16 (.len 15),o 17 (.mov (k 0))]
def r7:List AI:=[o 18 (.bin .lss 17 16)]
def r8:List AI:=[o 19 (.iadr none 3 15 17),o 20 (.ld true 3 19),o 8 (.alloc 277008 [(.bool false),.nil,.nil]),n (.st 3 8 20)]
def r9:List AI:=[m 21 6,o 22 (.ld true 3 8),o 23 (.call 123 [22]),o 24 (.bslice 277024 3 [23]),o 25 (.app 277025 3 56 21 24),m 6 25]
def CH:List AI:=[o 26 (.bin .add 17 (k 1)),m 17 26]
def CM:List AI:=[m 27 3,m 28 6,o 29 (.bslice 277029 1 [28]),o 30 (.app 277030 1 24 27 29),m 3 30]
def r12:List AI:=[o 31 (.bin .add 11 (k 1)),m 11 31]
def C1:List AI:=[m 32 3,m 2 32]
def l2:AL:=(.seq (.ops r7 false) (.seq (.cond 18 .skip (.exit 2)) (.seq (.block 3 (.seq (.dr (.ops r8 false) [18,19,20] []) (.dr (.ops r9 false) [8,21,22,23,24,25] []))) (.dr (.ops CH false) [26] []))))
def l1:AL:=(.seq (.ops r3 false) (.seq (.cond 12 .skip (.exit 0)) (.seq (.block 1 (.seq (.dr (.ops r4 false) [12,13,14] []) (.seq (.ops r5 false) (.seq (.seq (.dr (.ops r6 false) [5] []) (.block 2 (.loop l2))) (.dr (.ops CM false) [6,15,16,17,18,27,28,29,30] []))))) (.dr (.ops r12 false) [31] []))))
def c:AL:=(.seq (.dr (.ops r0 false) [2] []) (.seq (.ops r1 false) (.seq (.seq (.dr (.ops r2 false) [0] []) (.block 0 (.loop l1))) (.seq (.dr (.ops C1 false) [3,9,10,11,12,32] []) .ret))))
end LQ
def LQ:AFn:=⟨1,LQ.c,[.tmp 2],false⟩
namespace FX
def r0:List AI:=[o 4 (.mov (k 0)),o 5 (.alloc 901005 [(.bool false),.nil,.nil])]
def r1:List AI:=[o 15 (.call 124 [(k 1)]),o 7 (.alloc 901007 [(.bool false),.nil,.nil]),o 6 (.mov (k 0)),n (.st 3 7 15)]
def r2:List AI:=[o 8 (.mov (k 0))]
def r3:List AI:=[m 16 8,m 17 1,o 18 (.bin .lss 16 17),m 19 18,g 20 19 true (.mov 6),g 21 19 true (.mov 0),g 22 19 true (.len 21),g 23 19 true (.bin .lss 20 22),
 o 24 (.pick 19 23 (.c (.bool false)))]
def r5:List AI:=[m 27 6,m 9 27]
def r6:List AI:=[m 28 9,m 29 0,o 30 (.len 29),o 31 (.bin .lss 28 30),m 32 31,g 33 32 true (.mov 0),g 34 32 true (.mov 9),g 35 32 true (.iadr none 1 33 34),
 g 36 32 true (.ld false 1 35),g 37 32 true (.mov 8),g 38 32 true (.iadr none 3 36 37),g 39 32 true (.ld true 3 38),g 40 32 true (.call 155 [39]),
 g 41 32 true (.bin .eql 40 (k 0)),o 42 (.pick 32 41 (.c (.bool false)))]
def r7:List AI:=[m 43 9,o 44 (.bin .add 43 (k 1)),m 9 44]
def r8:List AI:=[m 45 9,m 46 0,o 47 (.len 46),o 48 (.bin .eql 45 47)]
def r9:List AI:=[m 49 9,m 50 6,o 51 (.bin .neq 49 50)]
def CH:List AI:=[m 52 0,m 53 9,m 54 0,m 55 6,m 56 0,m 57 6,o 58 (.iadr none 1 56 57),o 59 (.ld false 1 58),m 60 0,m 61 9,o 62 (.iadr none 1 60 61),
 o 63 (.ld false 1 62),o 64 (.iadr none 1 52 53),n (.st 1 64 59),o 65 (.iadr none 1 54 55),n (.st 1 65 63)]
def CM:List AI:=[o 66 (.ld true 3 7),o 67 (.call 152 [66]),n (.st 3 7 67)]
def r12:List AI:=[m 68 0,m 69 6,o 70 (.iadr none 1 68 69),o 71 (.ld false 1 70),m 72 8,o 73 (.iadr none 3 71 72),o 74 (.ld true 3 73),
 o 10 (.alloc 901010 [(.bool false),.nil,.nil]),n (.st 3 10 74)]
def C1:List AI:=[o 75 (.ld true 3 7),o 76 (.ld true 3 10),o 77 (.call 128 [75,76]),n (.st 3 7 77)]
def r14:List AI:=[m 78 0,m 79 6,o 80 (.iadr none 1 78 79),o 81 (.ld false 1 80),o 82 (.len 81),o 83 (.mov (k 0))]
def r15:List AI:=[o 84 (.bin .lss 83 82)]
def r16:List AI:=[m 85 83,m 11 85]
def EU:List AI:=[m 86 0,m 87 6,o 88 (.iadr none 1 86 87),o 89 (.ld false 1 88),m 90 11,m 91 0,m 92 6,o 93 (.iadr none 1 91 92),o 94 (.ld false 1 93),m 95 11,
 o 96 (.iadr none 3 94 95),o 97 (.ld true 3 96),o 98 (.ld true 3 10),o 99 (.call 276 [97,98]),o 100 (.iadr none 3 89 90),n (.st 3 100 99)]
def r18:List AI:=[o 101 (.bin .add 83 (k 1)),m 83 101]
def r19:List AI:=[m 102 0,o 103 (.len 102),o 104 (.mov (k 0))]
def r20:List AI:=[o 105 (.bin .lss 104 103)]
def r21:List AI:=[m 106 104,m 12 106]
def r22:List AI:=[m 107 0,m 108 12,o 109 (.iadr none 1 107 108),o 110 (.ld false 1 109),m 111 8,o 112 (.iadr none 3 110 111),o 113 (.ld true 3 112),
 o 13 (.alloc 901013 [(.bool false),.nil,.nil]),n (.st 3 13 113)]
def r23:List AI:=[m 114 12,m 115 6,o 116 (.bin .eql 114 115),m 117 116,g 118 117 false (.ld true 3 13),g 119 117 false (.call 155 [118]),
 g 120 117 false (.bin .eql 119 (k 0)),o 121 (.pick 117 (.c (.bool true)) 120)]
def KI:List AI:=[m 122 0,m 123 12,o 124 (.iadr none 1 122 123),o 125 (.ld false 1 124),o 126 (.len 125),o 127 (.mov (k 0))]
def NE:List AI:=[o 128 (.bin .lss 127 126)]
def OS:List AI:=[m 129 127,m 14 129]
def QX:List AI:=[m 130 0,m 131 12,o 132 (.iadr none 1 130 131),o 133 (.ld false 1 132),m 134 14,m 135 0,m 136 12,o 137 (.iadr none 1 135 136),o 138 (.ld false 1 137),
 m 139 14,o 140 (.iadr none 3 138 139),o 141 (.ld true 3 140),o 142 (.ld true 3 13),m 143 0,m 144 6,o 145 (.iadr none 1 143 144),o 146 (.ld false 1 145),
 m 147 14,o 148 (.iadr none 3 146 147),o 149 (.ld true 3 148),o 150 (.call 128 [142,149]),o 151 (.call 153 [141,150]),o 152 (.iadr none 3 133 134),
 n (.st 3 152 151)]
def QY:List AI:=[o 153 (.bin .add 127 (k 1)),m 127 153]
def QZ:List AI:=[o 154 (.bin .add 104 (k 1)),m 104 154]
def r30:List AI:=[m 155 6,o 156 (.bin .add 155 (k 1)),m 6 156]
def r4:List AI:=[m 25 8,o 26 (.bin .add 25 (k 1)),m 8 26]
def r31:List AI:=[m 157 6,o 158 (.ld true 3 7),m 4 157,n (.st 3 5 158)]
def l2:AL:=(.seq (.seq (.dr (.ops r6 false) [28,29,30,31,32,33,34,35,36,37,38,39,40,41] []) (.cond 42 .skip (.exit 2))) (.block 3 (.dr (.ops r7 false) [42,43,44] [])))
def l3:AL:=(.seq (.ops r15 false) (.seq (.cond 84 .skip (.exit 4)) (.seq (.block 5 (.seq (.dr (.ops r16 false) [84,85] []) (.dr (.ops EU true) [11,86,87,88,89,90,91,92,93,94,95,96,97,98,99,100] []))) (.dr (.ops r18 false) [101] []))))
def l5:AL:=(.seq (.ops NE false) (.seq (.cond 128 .skip (.exit 8)) (.seq (.block 9 (.seq (.dr (.ops OS false) [128,129] []) (.dr (.ops QX true) [14,130,131,132,133,134,135,136,137,138,139,140,141,142,143,144,145,146,147,148,149,150,151,152] []))) (.dr (.ops QY false) [153] []))))
def l4:AL:=(.seq (.ops r20 false) (.seq (.cond 105 .skip (.exit 6)) (.seq (.block 7 (.seq (.dr (.ops r21 false) [105,106] []) (.seq (.dr (.ops r22 false) [107,108,109,110,111,112,113] []) (.seq (.seq (.dr (.ops r23 false) [114,115,116,117,118,119,120] []) (.cond 121 (.exit 7) .skip)) (.seq (.dr (.ops KI false) [121,122,123,124,125] []) (.block 8 (.loop l5))))))) (.dr (.ops QZ false) [12,13,121,126,127,128,154] []))))
def l1:AL:=(.seq (.seq (.dr (.ops r3 false) [16,17,18,19,20,21,22,23] []) (.cond 24 .skip (.exit 0))) (.seq (.block 1 (.seq (.dr (.ops r5 false) [24,27] []) (.seq (.block 2 (.loop l2)) (.seq (.seq (.dr (.ops r8 false) [42,45,46,47] []) (.cond 48 (.exit 1) .skip)) (.seq (.seq (.dr (.ops r9 false) [48,49,50] []) (.cond 51 (.seq (.dr (.ops CH true) [9,51,52,53,54,55,56,57,58,59,60,61,62,63,64,65] []) (.dr (.ops CM false) [66,67] [])) .skip)) (.seq (.dr (.ops r12 false) [9,51,68,69,70,71,72,73,74] []) (.seq (.dr (.ops C1 false) [75,76,77] []) (.seq (.seq (.dr (.ops r14 false) [78,79,80,81] []) (.block 4 (.loop l3))) (.seq (.seq (.dr (.ops r19 false) [10,82,83,84,102] []) (.block 6 (.loop l4))) (.dr (.ops r30 false) [103,104,105,155,156] [])))))))))) (.dr (.ops r4 false) [9,25,26,48] [])))
def c:AL:=(.seq (.dr (.ops r0 false) [4] []) (.seq (.dr (.ops r1 false) [15] []) (.seq (.seq (.ops r2 false) (.block 0 (.loop l1))) (.seq (.dr (.ops r31 true) [0,1,6,7,8,24,157,158] []) .ret))))
end FX
def FX:AFn:=⟨2,FX.c,[.tmp 4,.cell 5 true 3],false⟩
namespace LP
def r0:List AI:=[o 4 (.mov (.c .nil)),o 5 (.mov (k 0))]
def r1:List AI:=[m 15 0,o 16 (.calli 277 [15]),m 6 16]
def r2:List AI:=[m 17 6,o 18 (.len 17),o 19 (.mov (k 0))]
def r3:List AI:=[o 20 (.bin .lss 19 18)]
def r4:List AI:=[m 21 19,m 7 21]
def r5:List AI:=[m 22 6,m 23 7,m 24 6,m 25 7,o 26 (.iadr none 1 24 25),o 27 (.ld false 1 26),m 28 1,m 29 7,o 30 (.iadr none 1 28 29),o 31 (.ld false 1 30),
 o 32 (.app 32 3 56 27 31),o 33 (.iadr none 1 22 23),n (.st 1 33 32)]
def r6:List AI:=[o 34 (.bin .add 19 (k 1)),m 19 34]
def r7:List AI:=[m 36 6,m 37 0,o 38 (.len 37),o 39 (.calli 901 [36,38]),m 35 39,o 40 (.ext 35 0),o 41 (.ext 35 1),o 9 (.alloc 9 [(.bool false),.nil,.nil]),m 8 40,
 n (.st 3 9 41)]
def r8:List AI:=[m 42 8,m 43 0,o 44 (.len 43),o 45 (.bin .lss 42 44)]
def r9:List AI:=[o 4 (.mov (.c .nil)),o 5 (.mov (k 11))]
def CH:List AI:=[o 10 (.vrow 10 1)]
def CM:List AI:=[m 46 6,o 47 (.len 46),o 48 (.mov (k 0))]
def r12:List AI:=[o 49 (.bin .lss 48 47)]
def C1:List AI:=[m 50 48,m 11 50]
def r14:List AI:=[o 12 (.vrow 12 3)]
def r15:List AI:=[m 51 6,m 52 11,o 53 (.iadr none 1 51 52),o 54 (.ld false 1 53),m 55 0,o 56 (.len 55),o 57 (.slc 3 54 (some 56) none),o 58 (.len 57),o 59 (.mov (k 0))]
def r16:List AI:=[o 60 (.bin .lss 59 58)]
def EU:List AI:=[o 61 (.iadr none 3 57 59),o 62 (.ld true 3 61),o 14 (.alloc 14 [(.bool false),.nil,.nil]),n (.st 3 14 62)]
def r18:List AI:=[m 63 12,o 64 (.ld true 3 14),o 65 (.call 123 [64]),o 66 (.bslice 66 3 [65]),o 67 (.app 67 3 56 63 66),m 12 67]
def r19:List AI:=[o 68 (.bin .add 59 (k 1)),m 59 68]
def r20:List AI:=[m 69 10,m 70 12,o 71 (.bslice 71 1 [70]),o 72 (.app 72 1 24 69 71),m 10 72]
def r21:List AI:=[o 73 (.bin .add 48 (k 1)),m 48 73]
def r22:List AI:=[m 74 10,m 4 74,o 5 (.mov (k 0))]
def l1:AL:=(.seq (.ops r3 false) (.seq (.cond 20 .skip (.exit 0)) (.seq (.block 1 (.seq (.dr (.ops r4 false) [20,21] []) (.dr (.ops r5 true) [7,22,23,24,25,26,27,28,29,30,31,32,33] []))) (.dr (.ops r6 false) [34] []))))
def l3:AL:=(.seq (.ops r16 false) (.seq (.cond 60 .skip (.exit 4)) (.seq (.block 5 (.seq (.dr (.ops EU false) [60,61,62] []) (.dr (.ops r18 false) [14,63,64,65,66,67] []))) (.dr (.ops r19 false) [68] []))))
def l2:AL:=(.seq (.ops r12 false) (.seq (.cond 49 .skip (.exit 2)) (.seq (.block 3 (.seq (.dr (.ops C1 false) [49,50] []) (.seq (.ops r14 false) (.seq (.seq (.dr (.ops r15 false) [11,51,52,53,54,55,56] []) (.block 4 (.loop l3))) (.dr (.ops r20 false) [12,57,58,59,60,69,70,71,72] []))))) (.dr (.ops r21 false) [73] []))))
def c:AL:=(.seq (.dr (.ops r0 false) [4,5] []) (.seq (.dr (.ops r1 false) [15,16] []) (.seq (.seq (.dr (.ops r2 false) [17] []) (.block 0 (.loop l1))) (.seq (.seq (.dr (.ops r7 false) [1,9,18,19,20,35,36,37,38,39,40,41] []) (.seq (.dr (.ops r8 false) [8,42,43,44] []) (.cond 45 (.seq (.dr (.ops r9 false) [0,6,45] []) .ret) .skip))) (.seq (.dr (.ops CH false) [45] []) (.seq (.seq (.dr (.ops CM false) [46] []) (.block 2 (.loop l2))) (.seq (.dr (.ops r22 false) [0,6,10,47,48,49,74] []) .ret)))))))
end LP
def LP:AFn:=⟨2,LP.c,[.tmp 4,.tmp 5],false⟩
namespace IA
def r0:List AI:=[o 2 (.mov (.c .nil)),o 3 (.mov (k 0))]
def r1:List AI:=[m 7 0,o 8 (.call 239 [7]),o 9 (.un .not 8),m 6 9]
def r2:List AI:=[o 2 (.mov (.c .nil)),o 3 (.mov (k 2))]
def r3:List AI:=[m 11 0,o 12 (.len 11),m 13 0,o 14 (.iadr none 1 13 (k 0)),o 15 (.ld false 1 14),o 16 (.len 15),o 17 (.bin .neq 12 16),m 10 17]
def r4:List AI:=[o 2 (.mov (.c .nil)),o 3 (.mov (k 1))]
def r5:List AI:=[m 19 0,o 20 (.len 19),o 21 (.call 240 [20]),m 18 21,o 22 (.ext 18 0),o 23 (.ext 18 1),m 4 22,m 5 23]
def r6:List AI:=[m 24 0,m 25 4,o 26 (.call 278 [24,25]),o 27 (.ext 26 0),o 28 (.ext 26 1),m 2 27,m 3 28]
def c:AL:=(.seq (.dr (.ops r0 false) [2,3] []) (.seq (.block 0 (.seq (.dr (.ops r1 false) [7,8,9] []) (.cond 6 (.seq (.dr (.ops r2 false) [0,6] []) .ret) (.seq (.dr (.ops r3 false) [6,11,12,13,14,15,16,17] []) (.cond 10 (.seq (.dr (.ops r4 false) [0,10] []) .ret) .skip))))) (.seq (.dr (.ops r5 false) [5,10,18,19,20,21,22,23] []) (.seq (.dr (.ops r6 false) [0,4,24,25,26,27,28] []) .ret))))
end IA
def IA:AFn:=⟨1,IA.c,[.tmp 2,.tmp 3],false⟩
structure InvGLib (L:Lib):Prop extends R09GLib L where
 LI:L 276=some F.LI
 LQ:L 277=some F.LQ
 FX:L 901=some F.FX
 LP:L 278=some F.LP
 IA:L 279=some F.IA
end Go.Eng.F
namespace Go.Eng.F
open C
namespace ME
def r0:List AI:=[o 4 (.mov (k 0))]
def r1:List AI:=[m 5 1,o 6 (.bin .lss 5 (k 1))]
def r2:List AI:=[o 4 (.mov (k 0))]
def r3:List AI:=[m 7 0,m 8 1,o 9 (.bin .rem 7 8),m 0 9]
def r4:List AI:=[m 10 0,o 11 (.bin .lss 10 (k 0))]
def r5:List AI:=[m 12 0,m 13 1,o 14 (.bin .add 12 13),m 0 14]
def r6:List AI:=[m 15 0,m 4 15]
def c:AL:=(.seq (.dr (.ops r0 false) [4] []) (.seq (.seq (.dr (.ops r1 false) [5] []) (.cond 6 (.seq (.dr (.ops r2 false) [0,1,6] []) .ret) .skip)) (.seq (.dr (.ops r3 false) [6,7,8,9] []) (.seq (.seq (.dr (.ops r4 false) [10] []) (.cond 11 (.dr (.ops r5 false) [1,11,12,13,14] []) .skip)) (.seq (.dr (.ops r6 false) [0,1,11,15] []) .ret)))))
end ME
def ME:AFn:=⟨2,ME.c,[.tmp 4],false⟩
namespace MA
def r0:List AI:=[o 4 (.mov (k 0))]
def r1:List AI:=[m 5 1,o 6 (.bin .geq 5 (k 0)),m 7 6,g 8 7 true (.mov 1),g 9 7 true (.mov 0),g 10 7 true (.len 9),g 11 7 true (.bin .lss 8 10),
 o 12 (.pick 7 11 (.c (.bool false)))]
def r2:List AI:=[m 13 0,m 14 1,o 15 (.iadr none 1 13 14),o 16 (.ld false 1 15),m 4 16]
def r3:List AI:=[o 4 (.mov (k 0))]
def c:AL:=(.seq (.dr (.ops r0 false) [4] []) (.seq (.seq (.dr (.ops r1 false) [5,6,7,8,9,10,11] []) (.cond 12 (.seq (.dr (.ops r2 false) [0,1,12,13,14,15,16] []) .ret) .skip)) (.seq (.dr (.ops r3 false) [0,1,12] []) .ret)))
end MA
def MA:AFn:=⟨2,MA.c,[.tmp 4],false⟩
structure WorldLib (L:Lib):Prop extends FixedLib L where
 ME:L 34=some F.ME
 MA:L 35=some F.MA
end Go.Eng.F

namespace Go.Eng.F
open C
namespace MC
def r0:List AI:=[o 4 (.mov (.c .nil))]
def r1:List AI:=[o 5 (.vrow 5 3)]
def r2:List AI:=[o 6 (.mov (k 0))]
def r3:List AI:=[m 8 6,m 9 1,o 10 (.bin .lss 8 9)]
def r5:List AI:=[m 13 0,m 14 6,o 15 (.call 35 [13,14]),o 16 (.call 34 [15,(k 2000)]),m 7 16]
def r6:List AI:=[m 17 5,m 18 7,o 19 (.bin .rem 18 (k 25)),o 20 (.bin .sub 19 (k 12)),m 21 7,o 22 (.bin .quo 21 (k 25)),o 23 (.bin .rem 22 (k 8)),
 o 24 (.bin .add (k 1) 23),o 25 (.call 125 [20,24]),o 26 (.bslice 26 3 [25]),o 27 (.app 27 3 56 17 26),m 5 27]
def r4:List AI:=[m 11 6,o 12 (.bin .add 11 (k 1)),m 6 12]
def r7:List AI:=[m 28 5,m 4 28]
def l1:AL:=(.seq (.seq (.dr (.ops r3 false) [8,9] []) (.cond 10 .skip (.exit 0))) (.seq (.block 1 (.seq (.dr (.ops r5 false) [10,13,14,15,16] []) (.dr (.ops r6 false) [7,17,18,19,20,21,22,23,24,25,26,27] []))) (.dr (.ops r4 false) [11,12] [])))
def c:AL:=(.seq (.dr (.ops r0 false) [4] []) (.seq (.ops r1 false) (.seq (.seq (.ops r2 false) (.block 0 (.loop l1))) (.seq (.dr (.ops r7 false) [0,1,5,6,10,28] []) .ret))))
end MC
def MC:AFn:=⟨2,MC.c,[.tmp 4],false⟩
namespace MD
def r0:List AI:=[o 4 (.alloc 4 [.nil,.nil,.nil,(.bool false),.nil,.nil])]
def r1:List AI:=[m 8 0,m 9 1,m 10 1,o 11 (.bin .mul 9 10),m 12 1,o 13 (.bin .mul (k 2) 12),o 14 (.bin .add 11 13),o 15 (.bin .add 14 (k 1)),o 16 (.call 141 [8,15]),
 m 5 16]
def r2:List AI:=[m 17 5,m 18 1,m 19 1,o 20 (.bin .mul 18 19),m 21 1,m 22 1,o 23 (.bin .mul 21 22),m 24 1,o 25 (.bin .add 23 24),o 26 (.slc 3 17 (some 20) (some 25)),
 m 27 5,m 28 1,m 29 1,o 30 (.bin .mul 28 29),m 31 1,o 32 (.bin .add 30 31),m 33 1,m 34 1,o 35 (.bin .mul 33 34),m 36 1,o 37 (.bin .mul (k 2) 36),
 o 38 (.bin .add 35 37),o 39 (.slc 3 27 (some 32) (some 38)),m 40 5,m 41 1,m 42 1,o 43 (.bin .mul 41 42),m 44 1,o 45 (.bin .mul (k 2) 44),
 o 46 (.bin .add 43 45),o 47 (.iadr none 3 40 46),⟨some 48,.ld true 3 47,none,[6]⟩,
 o 49 (.build [.nil,.nil,.nil,(.bool false),.nil,.nil] [(1,1,26),(2,1,39),(3,3,48)]),o 6 (.alloc 6 [.nil,.nil,.nil,(.bool false),.nil,.nil]),
 n (.st 6 6 49)]
def r3:List AI:=[o 7 (.mov (k 0))]
def r4:List AI:=[m 50 7,m 51 1,o 52 (.bin .lss 50 51)]
def r6:List AI:=[o 55 (.fadr 6 0),⟨some 56,.ld false 1 55,none,[67]⟩,m 57 5,m 58 7,m 59 1,o 60 (.bin .mul 58 59),m 61 7,m 62 1,o 63 (.bin .mul 61 62),m 64 1,
 o 65 (.bin .add 63 64),o 66 (.slc 3 57 (some 60) (some 65)),o 67 (.bslice 67 1 [66]),o 68 (.app 68 1 24 56 67),o 69 (.fadr 6 0),n (.st 1 69 68)]
def r5:List AI:=[m 53 7,o 54 (.bin .add 53 (k 1)),m 7 54]
def r7:List AI:=[o 70 (.ld true 6 6),n (.st 6 4 70)]
def l1:AL:=(.seq (.seq (.dr (.ops r4 false) [50,51] []) (.cond 52 .skip (.exit 0))) (.seq (.block 1 (.dr (.ops r6 true) [52,55,56,57,58,59,60,61,62,63,64,65,66,67,68,69] [])) (.dr (.ops r5 false) [53,54] [])))
def c:AL:=(.seq (.ops r0 false) (.seq (.dr (.ops r1 false) [0,8,9,10,11,12,13,14,15,16] []) (.seq (.dr (.ops r2 true) [17,18,19,20,21,22,23,24,25,26,27,28,29,30,31,32,33,34,35,36,37,38,39,40,41,42,43,44,45,46,47,48,49] []) (.seq (.seq (.ops r3 false) (.block 0 (.loop l1))) (.seq (.dr (.ops r7 false) [1,5,6,7,52,70] []) .ret)))))
end MD
def MD:AFn:=⟨2,MD.c,[.cell 4 true 6],false⟩
structure RatsGLib (L:Lib):Prop extends WorldLib L,RefGLib L where
 MC:L 141=some F.MC
 MD:L 142=some F.MD
end Go.Eng.F

namespace Go.Eng.F
open C
namespace MB
def r0:List AI:=[o 4 (.mov (.c .nil))]
def r1:List AI:=[m 8 0,m 9 1,m 10 1,o 11 (.bin .mul 9 10),o 12 (.call 141 [8,11]),m 5 12]
def r2:List AI:=[o 6 (.vrow 6 1)]
def r3:List AI:=[o 7 (.mov (k 0))]
def r4:List AI:=[m 13 7,m 14 1,o 15 (.bin .lss 13 14)]
def r6:List AI:=[m 18 6,m 19 5,m 20 7,m 21 1,o 22 (.bin .mul 20 21),m 23 7,m 24 1,o 25 (.bin .mul 23 24),m 26 1,o 27 (.bin .add 25 26),
 o 28 (.slc 3 19 (some 22) (some 27)),o 29 (.bslice 29 1 [28]),o 30 (.app 30 1 24 18 29),m 6 30]
def r5:List AI:=[m 16 7,o 17 (.bin .add 16 (k 1)),m 7 17]
def r7:List AI:=[m 31 6,m 4 31]
def l1:AL:=(.seq (.seq (.dr (.ops r4 false) [13,14] []) (.cond 15 .skip (.exit 0))) (.seq (.block 1 (.dr (.ops r6 false) [15,18,19,20,21,22,23,24,25,26,27,28,29,30] [])) (.dr (.ops r5 false) [16,17] [])))
def c:AL:=(.seq (.dr (.ops r0 false) [4] []) (.seq (.dr (.ops r1 false) [0,8,9,10,11,12] []) (.seq (.ops r2 false) (.seq (.seq (.ops r3 false) (.block 0 (.loop l1))) (.seq (.dr (.ops r7 false) [1,5,6,7,15,31] []) .ret)))))
end MB
def MB:AFn:=⟨2,MB.c,[.tmp 4],false⟩
structure WMatLib (L:Lib):Prop extends RatsGLib L where
 MB:L 280=some F.MB
end Go.Eng.F

namespace Go.Eng.F
open C
namespace LT
def r0:List AI:=[o 2 (.box 2 0),o 3 (.box 3 1),o 4 (.mov (.c (.bool false)))]
def r1:List AI:=[o 6 (.fadr 2 0),o 7 (.ld false 1 6),o 8 (.len 7),o 9 (.fadr 3 0),o 10 (.ld false 1 9),o 11 (.len 10),o 12 (.bin .neq 8 11),m 13 12,
 g 14 13 false (.fadr 2 1),g 15 13 false (.ld false 1 14),g 16 13 false (.fadr 3 1),g 17 13 false (.ld false 1 16),g 18 13 false (.call 129 [15,17]),
 g 19 13 false (.un .not 18),o 20 (.pick 13 (.c (.bool true)) 19),m 21 20,g 22 21 false (.fadr 2 2),g 23 21 false (.ld false 1 22),
 g 24 21 false (.fadr 3 2),g 25 21 false (.ld false 1 24),g 26 21 false (.call 129 [23,25]),g 27 21 false (.un .not 26),
 o 28 (.pick 21 (.c (.bool true)) 27),m 29 28,g 30 29 false (.fadr 2 3),g 31 29 false (.ld true 3 30),g 32 29 false (.fadr 3 3),
 g 33 29 false (.ld true 3 32),g 34 29 false (.call 127 [31,33]),g 35 29 false (.bin .neq 34 (k 0)),o 36 (.pick 29 (.c (.bool true)) 35)]
def r2:List AI:=[o 4 (.mov (.c (.bool false)))]
def r3:List AI:=[o 5 (.mov (k 0))]
def r4:List AI:=[m 37 5,o 38 (.fadr 2 0),o 39 (.ld false 1 38),o 40 (.len 39),o 41 (.bin .lss 37 40)]
def r6:List AI:=[o 44 (.fadr 2 0),o 45 (.ld false 1 44),m 46 5,o 47 (.iadr none 1 45 46),o 48 (.ld false 1 47),o 49 (.fadr 3 0),o 50 (.ld false 1 49),m 51 5,
 o 52 (.iadr none 1 50 51),o 53 (.ld false 1 52),o 54 (.call 129 [48,53]),o 55 (.un .not 54)]
def r7:List AI:=[o 4 (.mov (.c (.bool false)))]
def r5:List AI:=[m 42 5,o 43 (.bin .add 42 (k 1)),m 5 43]
def r8:List AI:=[o 4 (.mov (.c (.bool true)))]
def l1:AL:=(.seq (.seq (.dr (.ops r4 false) [37,38,39,40] []) (.cond 41 .skip (.exit 0))) (.seq (.block 1 (.seq (.dr (.ops r6 true) [41,44,45,46,47,48,49,50,51,52,53,54] []) (.cond 55 (.seq (.dr (.ops r7 false) [2,3,5,55] []) .ret) .skip))) (.dr (.ops r5 false) [42,43,55] [])))
def c:AL:=(.seq (.dr (.ops r0 false) [0,1,4] []) (.seq (.seq (.dr (.ops r1 false) [6,7,8,9,10,11,12,13,14,15,16,17,18,19,20,21,22,23,24,25,26,27,28,29,30,31,32,33,34,35] []) (.cond 36 (.seq (.dr (.ops r2 false) [2,3,36] []) .ret) .skip)) (.seq (.seq (.dr (.ops r3 false) [36] []) (.block 0 (.loop l1))) (.seq (.dr (.ops r8 false) [2,3,5,41] []) .ret))))
end LT
def LT:AFn:=⟨2,LT.c,[.tmp 4],false⟩
structure ModGLib (L:Lib):Prop extends LinGLib L,RatHLib L,RefHLib L where
 LT:L 167=some F.LT
end Go.Eng.F

namespace Go.Eng.F
open C
structure RunGLib (L:Lib):Prop extends NetLib L,WorldLib L where
end Go.Eng.F

namespace Go.Eng.F
open C
structure DirectGLib (L:Lib):Prop extends RunGLib L where
end Go.Eng.F

namespace Go.Eng.F
open C
structure BldGLib (L:Lib):Prop extends DirectGLib L,RatHLib L,PolyGLib L,R05GLib L where
end Go.Eng.F

namespace Go.Eng.F
open C
namespace JM
def r0:List AI:=[o 0 (.mov (.c (.bool false)))]
def r1:List AI:=[o 5 (.call 124 [(k 1)]),o 6 (.call 125 [(k 1),(k 2)]),o 1 (.alloc 1 [(.bool false),.nil,.nil]),o 2 (.alloc 2 [(.bool false),.nil,.nil]),n (.st 3 1 5),
 n (.st 3 2 6)]
def r2:List AI:=[⟨some 8,.ld true 3 1,none,[13,3]⟩,o 9 (.bslice 9 3 [8]),⟨some 10,.ld true 3 1,none,[9,3]⟩,⟨some 11,.ld true 3 2,none,[9,3]⟩,
 ⟨some 12,.call 152 [11],none,[9,3]⟩,o 13 (.bslice 13 3 [10,12]),o 14 (.build [.nil,.nil] [(0,1,9),(1,1,13)]),⟨some 15,.call 207 [14],none,[3]⟩,
 m 7 15,o 16 (.ext 7 0),o 17 (.ext 7 1),o 3 (.alloc 3 [.nil,.nil,.nil,(.bool false),.nil,.nil]),n (.st 6 3 16),m 4 17]
def r3:List AI:=[m 18 4,o 19 (.bin .eql 18 (k 0)),m 20 19,g 21 20 true (.ld true 6 3),g 22 20 true (.ld true 3 2),g 23 20 true (.bslice 23 3 [22]),
 g 24 20 true (.bslice 24 1 [23]),g 25 20 true (.ld true 3 1),g 26 20 true (.bslice 26 3 [25]),g 27 20 true (.ld true 3 2),g 28 20 true (.bslice 28 3 [27]),
 g 29 20 true (.ld true 3 1),g 30 20 true (.build [.nil,.nil,.nil,(.bool false),.nil,.nil] [(0,1,24),(1,1,26),(2,1,28),(3,3,29)]),
 g 31 20 true (.call 167 [21,30]),o 32 (.pick 20 31 (.c (.bool false))),m 0 32]
def c:AL:=(.seq (.dr (.ops r0 false) [0] []) (.seq (.dr (.ops r1 false) [5,6] []) (.seq (.dr (.ops r2 true) [7,8,9,10,11,12,13,14,15,16,17] []) (.seq (.dr (.ops r3 false) [1,2,3,4,18,19,20,21,22,23,24,25,26,27,28,29,30,31,32] []) .ret))))
end JM
def JM:AFn:=⟨0,JM.c,[.tmp 0],false⟩
structure LawFLib (L:Lib):Prop extends StGLib L,ModGLib L,BldGLib L,RatsGLib L where
 JM:L 215=some F.JM
end Go.Eng.F

namespace Go.Eng.F
open C
namespace L5
def r0:List AI:=[o 1 (.box 1 0),o 2 (.mov (.c (.bool false)))]
def r1:List AI:=[o 3 (.ld true 6 1),o 4 (.call 130 [3]),m 5 4,g 6 5 true (.fadr 1 0),g 7 5 true (.ld false 1 6),g 8 5 true (.len 7),g 9 5 true (.bin .leq 8 (k 16)),
 o 10 (.pick 5 9 (.c (.bool false))),m 2 10]
def c:AL:=(.seq (.dr (.ops r0 false) [0,2] []) (.seq (.dr (.ops r1 false) [1,3,4,5,6,7,8,9,10] []) .ret))
end L5
def L5:AFn:=⟨1,L5.c,[.tmp 2],false⟩
namespace L2
def r0:List AI:=[o 2 (.box 2 0),o 3 (.box 3 1),o 4 (.mov (.c (.bool false))),o 5 (.mov (k 0))]
def r1:List AI:=[o 11 (.ld true 6 2),o 12 (.call 281 [11]),o 13 (.un .not 12),m 14 13,g 15 14 false (.ld true 6 3),g 16 14 false (.call 281 [15]),
 g 17 14 false (.un .not 16),o 18 (.pick 14 (.c (.bool true)) 17)]
def r2:List AI:=[o 4 (.mov (.c (.bool false))),o 5 (.mov (k 2))]
def r3:List AI:=[o 19 (.fadr 2 0),o 20 (.ld false 1 19),o 21 (.len 20),o 22 (.fadr 3 0),o 23 (.ld false 1 22),o 24 (.len 23),o 25 (.bin .add 21 24),
 o 26 (.bin .add 25 (k 1)),m 6 26]
def r4:List AI:=[o 28 (.ld true 6 2),m 29 6,o 30 (.call 134 [28,29]),m 27 30,o 31 (.ext 27 0),o 32 (.ext 27 1),m 7 31,m 8 32]
def r5:List AI:=[m 33 8,o 34 (.bin .neq 33 (k 0))]
def r6:List AI:=[m 35 8,o 4 (.mov (.c (.bool false))),m 5 35]
def r7:List AI:=[o 37 (.ld true 6 3),m 38 6,o 39 (.call 134 [37,38]),m 36 39,o 40 (.ext 36 0),o 41 (.ext 36 1),m 9 40,m 8 41]
def r8:List AI:=[m 42 8,o 43 (.bin .neq 42 (k 0))]
def r9:List AI:=[m 44 8,o 4 (.mov (.c (.bool false))),m 5 44]
def CH:List AI:=[m 45 6,o 46 (.mov (k 0))]
def CM:List AI:=[o 47 (.bin .lss 46 45)]
def r12:List AI:=[m 48 46,m 10 48]
def C1:List AI:=[m 49 7,m 50 10,o 51 (.iadr none 3 49 50),o 52 (.ld true 3 51),m 53 9,m 54 10,o 55 (.iadr none 3 53 54),o 56 (.ld true 3 55),o 57 (.call 198 [52,56]),
 o 58 (.bin .neq 57 (k 0))]
def r14:List AI:=[o 4 (.mov (.c (.bool false))),o 5 (.mov (k 0))]
def r15:List AI:=[o 59 (.bin .add 46 (k 1)),m 46 59]
def r16:List AI:=[o 4 (.mov (.c (.bool true))),o 5 (.mov (k 0))]
def l1:AL:=(.seq (.ops CM false) (.seq (.cond 47 .skip (.exit 0)) (.seq (.block 1 (.seq (.dr (.ops r12 false) [47,48] []) (.seq (.dr (.ops C1 true) [10,49,50,51,52,53,54,55,56,57] []) (.cond 58 (.seq (.dr (.ops r14 false) [7,9,45,46,58] []) .ret) .skip)))) (.dr (.ops r15 false) [58,59] []))))
def c:AL:=(.seq (.dr (.ops r0 false) [0,1,4,5] []) (.seq (.seq (.dr (.ops r1 false) [11,12,13,14,15,16,17] []) (.cond 18 (.seq (.dr (.ops r2 false) [2,3,18] []) .ret) .skip)) (.seq (.dr (.ops r3 false) [18,19,20,21,22,23,24,25,26] []) (.seq (.dr (.ops r4 false) [2,27,28,29,30,31,32] []) (.seq (.seq (.dr (.ops r5 false) [33] []) (.cond 34 (.seq (.dr (.ops r6 false) [3,6,7,8,34,35] []) .ret) .skip)) (.seq (.dr (.ops r7 false) [3,34,36,37,38,39,40,41] []) (.seq (.seq (.dr (.ops r8 false) [42] []) (.cond 43 (.seq (.dr (.ops r9 false) [6,7,8,9,43,44] []) .ret) .skip)) (.seq (.seq (.dr (.ops CH false) [6,8,43] []) (.block 0 (.loop l1))) (.seq (.dr (.ops r16 false) [7,9,45,46,47] []) .ret)))))))))
end L2
def L2:AFn:=⟨2,L2.c,[.tmp 4,.tmp 5],false⟩
namespace LZ
def r0:List AI:=[o 2 (.box 2 0),o 3 (.box 3 1),o 4 (.mov (.c (.bool false))),o 5 (.mov (k 0))]
def r1:List AI:=[o 6 (.ld true 2 2),o 7 (.call 201 [6]),o 8 (.un .not 7),m 9 8,g 10 9 false (.ld true 2 3),g 11 9 false (.call 201 [10]),g 12 9 false (.un .not 11),
 o 13 (.pick 9 (.c (.bool true)) 12)]
def r2:List AI:=[o 4 (.mov (.c (.bool false))),o 5 (.mov (k 2))]
def r3:List AI:=[o 14 (.fadr 2 0),o 15 (.ld false 1 14),o 16 (.fadr 3 1),o 17 (.ld false 1 16),o 18 (.call 274 [15,17]),o 19 (.fadr 3 0),o 20 (.ld false 1 19),
 o 21 (.fadr 2 1),o 22 (.ld false 1 21),o 23 (.call 274 [20,22]),o 24 (.call 275 [18,23]),m 4 24,o 5 (.mov (k 0))]
def c:AL:=(.seq (.dr (.ops r0 false) [0,1,4,5] []) (.seq (.seq (.dr (.ops r1 false) [6,7,8,9,10,11,12] []) (.cond 13 (.seq (.dr (.ops r2 false) [2,3,13] []) .ret) .skip)) (.seq (.dr (.ops r3 true) [2,3,13,14,15,16,17,18,19,20,21,22,23,24] []) .ret)))
end LZ
def LZ:AFn:=⟨2,LZ.c,[.tmp 4,.tmp 5],false⟩
namespace LX
def r0:List AI:=[o 1 (.box 1 0),o 2 (.mov (.c (.bool false)))]
def r1:List AI:=[o 3 (.ld true 6 1),o 4 (.call 136 [3]),m 5 4,g 6 5 true (.fadr 1 0),g 7 5 true (.ld false 1 6),g 8 5 true (.len 7),g 9 5 true (.bin .leq 8 (k 16)),
 o 10 (.pick 5 9 (.c (.bool false))),m 2 10]
def c:AL:=(.seq (.dr (.ops r0 false) [0,2] []) (.seq (.dr (.ops r1 false) [1,3,4,5,6,7,8,9,10] []) .ret))
end LX
def LX:AFn:=⟨1,LX.c,[.tmp 2],false⟩
namespace LW
def r0:List AI:=[o 2 (.box 2 0),o 4 (.alloc 4 [.nil,.nil,.nil,(.bool false),.nil,.nil]),o 5 (.mov (k 0))]
def r1:List AI:=[o 14 (.ld true 6 2),o 15 (.call 284 [14]),o 16 (.un .not 15)]
def r2:List AI:=[o 17 (.build [.nil,.nil,.nil,(.bool false),.nil,.nil] []),n (.st 6 4 17),o 5 (.mov (k 2))]
def r3:List AI:=[m 18 1,o 19 (.len 18),o 20 (.fadr 2 0),o 21 (.ld false 1 20),o 22 (.len 21),o 23 (.bin .neq 19 22)]
def r4:List AI:=[o 24 (.build [.nil,.nil,.nil,(.bool false),.nil,.nil] []),n (.st 6 4 24),o 5 (.mov (k 1))]
def r5:List AI:=[o 6 (.mov (k 0))]
def r6:List AI:=[m 25 6,m 26 1,o 27 (.len 26),o 28 (.bin .lss 25 27)]
def r8:List AI:=[m 31 1,m 32 6,o 33 (.iadr none 1 31 32),o 34 (.ld false 1 33),o 35 (.len 34),m 36 1,o 37 (.len 36),o 38 (.bin .neq 35 37)]
def r9:List AI:=[o 39 (.build [.nil,.nil,.nil,(.bool false),.nil,.nil] []),n (.st 6 4 39),o 5 (.mov (k 1))]
def r7:List AI:=[m 29 6,o 30 (.bin .add 29 (k 1)),m 6 30]
def CH:List AI:=[m 40 1,o 41 (.len 40),o 42 (.bin .eql 41 (k 0))]
def CM:List AI:=[o 43 (.fadr 2 3),o 44 (.ld true 3 43),o 45 (.call 123 [44]),o 46 (.build [.nil,.nil,.nil,(.bool false),.nil,.nil] [(3,3,45)]),n (.st 6 4 46),
 o 5 (.mov (k 0))]
def r12:List AI:=[m 48 1,o 49 (.call 279 [48]),m 47 49,o 50 (.ext 47 0),o 51 (.ext 47 1),m 7 50,m 8 51]
def C1:List AI:=[m 52 8,o 53 (.bin .neq 52 (k 0))]
def r14:List AI:=[o 54 (.build [.nil,.nil,.nil,(.bool false),.nil,.nil] []),n (.st 6 4 54),o 5 (.mov (k 11))]
def r15:List AI:=[m 56 1,o 57 (.fadr 2 0),o 58 (.ld false 1 57),o 59 (.call 241 [56,58]),m 55 59,o 60 (.ext 55 0),o 61 (.ext 55 1),m 9 60,m 10 61]
def r16:List AI:=[m 63 9,m 64 7,o 65 (.call 241 [63,64]),m 62 65,o 66 (.ext 62 0),o 67 (.ext 62 1),m 11 66,m 12 67]
def EU:List AI:=[m 68 11,m 69 1,o 70 (.fadr 2 1),⟨some 71,.ld false 1 70,none,[13]⟩,⟨some 72,.call 138 [69,71],none,[13]⟩,o 73 (.fadr 2 3),
 ⟨some 74,.ld true 3 73,none,[13]⟩,⟨some 75,.call 123 [74],none,[13]⟩,
 o 76 (.build [.nil,.nil,.nil,(.bool false),.nil,.nil] [(0,1,68),(1,1,72),(3,3,75)]),
 o 13 (.alloc 13 [.nil,.nil,.nil,(.bool false),.nil,.nil]),n (.st 6 13 76)]
def r18:List AI:=[m 77 7,o 78 (.call 212 [77]),o 79 (.fadr 2 2),o 80 (.ld false 1 79),o 81 (.call 138 [78,80]),o 82 (.fadr 13 2),n (.st 1 82 81)]
def r19:List AI:=[o 83 (.ld true 6 13),n (.st 6 4 83),o 5 (.mov (k 0))]
def l1:AL:=(.seq (.seq (.dr (.ops r6 false) [25,26,27] []) (.cond 28 .skip (.exit 0))) (.seq (.block 1 (.seq (.dr (.ops r8 false) [28,31,32,33,34,35,36,37] []) (.cond 38 (.seq (.dr (.ops r9 false) [1,2,6,38,39] []) .ret) .skip))) (.dr (.ops r7 false) [29,30,38] [])))
def c:AL:=(.seq (.dr (.ops r0 false) [0,5] []) (.seq (.seq (.dr (.ops r1 false) [14,15] []) (.cond 16 (.seq (.dr (.ops r2 false) [1,2,16,17] []) .ret) .skip)) (.seq (.seq (.dr (.ops r3 false) [16,18,19,20,21,22] []) (.cond 23 (.seq (.dr (.ops r4 false) [1,2,23,24] []) .ret) .skip)) (.seq (.seq (.dr (.ops r5 false) [23] []) (.block 0 (.loop l1))) (.seq (.seq (.dr (.ops CH false) [6,28,40,41] []) (.cond 42 (.seq (.dr (.ops CM false) [1,2,42,43,44,45,46] []) .ret) .skip)) (.seq (.dr (.ops r12 false) [42,47,48,49,50,51] []) (.seq (.seq (.dr (.ops C1 false) [8,52] []) (.cond 53 (.seq (.dr (.ops r14 false) [1,2,7,53,54] []) .ret) .skip)) (.seq (.dr (.ops r15 false) [10,53,55,56,57,58,59,60,61] []) (.seq (.dr (.ops r16 false) [9,12,62,63,64,65,66,67] []) (.seq (.dr (.ops EU true) [1,11,68,69,70,71,72,73,74,75,76] []) (.seq (.dr (.ops r18 true) [2,7,77,78,79,80,81,82] []) (.seq (.dr (.ops r19 false) [13,83] []) .ret))))))))))))
end LW
def LW:AFn:=⟨2,LW.c,[.cell 4 true 6,.tmp 5],false⟩
namespace G7
def r0:List AI:=[o 12 (.mov (.c (.bool false)))]
def r1:List AI:=[m 25 0,m 26 3,o 27 (.call 34 [26,(k 3)]),o 28 (.call 142 [25,27]),o 13 (.alloc 13 [.nil,.nil,.nil,(.bool false),.nil,.nil]),n (.st 6 13 28)]
def r2:List AI:=[m 29 1,m 30 4,o 31 (.call 34 [30,(k 3)]),o 32 (.call 142 [29,31]),o 14 (.alloc 14 [.nil,.nil,.nil,(.bool false),.nil,.nil]),n (.st 6 14 32)]
def r3:List AI:=[m 33 5]
def r4:List AI:=[⟨some 35,.ld true 6 13,none,[15]⟩,m 36 2,o 37 (.fadr 13 0),⟨some 38,.ld false 1 37,none,[15]⟩,o 39 (.len 38),
 ⟨some 40,.call 280 [36,39],none,[15]⟩,⟨some 41,.call 285 [35,40],none,[15]⟩,m 34 41,o 42 (.ext 34 0),o 43 (.ext 34 1),
 o 15 (.alloc 15 [.nil,.nil,.nil,(.bool false),.nil,.nil]),n (.st 6 15 42),m 16 43]
def r5:List AI:=[m 44 16,o 45 (.bin .neq 44 (k 0))]
def r6:List AI:=[o 46 (.call 215 []),m 12 46]
def r7:List AI:=[o 47 (.ld true 6 15),n (.st 6 14 47)]
def r8:List AI:=[o 49 (.ld true 6 13),o 50 (.ld true 6 14),o 51 (.call 282 [49,50]),m 48 51,o 52 (.ext 48 0),o 53 (.ext 48 1),m 17 52,m 18 53]
def r9:List AI:=[o 55 (.ld true 6 13),o 56 (.call 189 [55]),m 54 56,o 57 (.ext 54 0),o 58 (.ext 54 1),o 19 (.alloc 19 [.nil,.nil]),n (.st 2 19 57),m 20 58]
def CH:List AI:=[o 60 (.ld true 6 14),o 61 (.call 189 [60]),m 59 61,o 62 (.ext 59 0),o 63 (.ext 59 1),o 21 (.alloc 21 [.nil,.nil]),n (.st 2 21 62),m 22 63]
def CM:List AI:=[o 65 (.ld true 2 19),o 66 (.ld true 2 21),o 67 (.call 283 [65,66]),m 64 67,o 68 (.ext 64 0),o 69 (.ext 64 1),m 23 68,m 24 69]
def r12:List AI:=[o 70 (.call 215 []),m 71 70,g 72 71 true (.mov 18),g 73 71 true (.bin .eql 72 (k 0)),o 74 (.pick 71 73 (.c (.bool false))),m 75 74,g 76 75 true (.mov 20),
 g 77 75 true (.bin .eql 76 (k 0)),o 78 (.pick 75 77 (.c (.bool false))),m 79 78,g 80 79 true (.mov 22),g 81 79 true (.bin .eql 80 (k 0)),
 o 82 (.pick 79 81 (.c (.bool false))),m 83 82,g 84 83 true (.mov 24),g 85 83 true (.bin .eql 84 (k 0)),o 86 (.pick 83 85 (.c (.bool false))),m 87 86,
 g 88 87 true (.mov 17),g 89 87 true (.mov 23),g 90 87 true (.beq false 88 89),o 91 (.pick 87 90 (.c (.bool false))),m 92 91,g 93 92 true (.mov 5),
 g 94 92 true (.un .not 93),g 95 92 true (.mov 94),g 96 95 false (.mov 17),g 97 92 true (.pick 95 (.c (.bool true)) 96),
 o 98 (.pick 92 97 (.c (.bool false))),m 12 98]
def c:AL:=(.seq (.dr (.ops r0 false) [12] []) (.seq (.dr (.ops r1 false) [0,3,25,26,27,28] []) (.seq (.dr (.ops r2 false) [1,4,29,30,31,32] []) (.seq (.seq (.ops r3 false) (.cond 33 (.seq (.dr (.ops r4 true) [2,33,34,35,36,37,38,39,40,41,42,43] []) (.seq (.seq (.dr (.ops r5 false) [16,44] []) (.cond 45 (.seq (.dr (.ops r6 false) [5,13,14,15,45,46] []) .ret) .skip)) (.dr (.ops r7 false) [15,45,47] []))) .skip)) (.seq (.dr (.ops r8 false) [2,33,48,49,50,51,52,53] []) (.seq (.dr (.ops r9 false) [13,54,55,56,57,58] []) (.seq (.dr (.ops CH false) [14,59,60,61,62,63] []) (.seq (.dr (.ops CM false) [19,21,64,65,66,67,68,69] []) (.seq (.dr (.ops r12 false) [5,17,18,20,22,23,24,70,71,72,73,74,75,76,77,78,79,80,81,82,83,84,85,86,87,88,89,90,91,92,93,94,95,96,97,98] []) .ret)))))))))
end G7
def G7:AFn:=⟨6,G7.c,[.tmp 12],false⟩
structure EquGLib (L:Lib):Prop extends PolMLib L,InvGLib L,WMatLib L,StGLib L,LawFLib L where
 L5:L 281=some F.L5
 L2:L 282=some F.L2
 LZ:L 283=some F.LZ
 LX:L 284=some F.LX
 LW:L 285=some F.LW
 G7:L 286=some F.G7
end Go.Eng.F

namespace Go.Eng
@[irreducible] def EF (a b : Nat) : Nat := (a + 18446744073709551616 - b) % 18446744073709551616
theorem RB (a b:Nat):EF a b=(a+18446744073709551616-b)%18446744073709551616:=by unfold EF;rfl
def val:List Nat->Nat
 | []=>0
 | d::l=>d+4294967296*val l
def A5 (l:List Nat):Prop := ∀ d∈l,d<4294967296
def dg (n:Nat):List Nat:=if h:n=0 then [] else n%4294967296::dg (n/4294967296)
termination_by n
decreasing_by omega
theorem ET:dg 0=[]:=by rw[dg];simp
theorem IP {n:Nat} (h:n≠0):dg n=n%4294967296::dg (n/4294967296):=by rw[dg];simp [h]
theorem IJ:val []=0:=rfl
theorem OZ (d:Nat) (l:List Nat):val (d::l)=d+4294967296*val l:=rfl
theorem BU (n:Nat):val (dg n)=n:=by
 induction n using Nat.strongRecOn with
 | ind n ih =>
  by_cases h:n=0
  ·subst h;rw[ET];rfl
  ·rw[IP h,OZ,ih _ (by omega)]
   omega
theorem DT (n:Nat):A5 (dg n):=by
 induction n using Nat.strongRecOn with
 | ind n ih =>
  by_cases h:n=0
  ·subst h;rw[ET];intro d hd;cases hd
  ·rw[IP h]
   intro d hd
   rcases List.mem_cons.1 hd with rfl|hd
   ·omega
   ·exact ih _ (by omega) d hd
theorem A5.tail {d:Nat} {l:List Nat} (h:A5 (d::l)):A5 l:=fun x hx=>h x (List.mem_cons_of_mem _ hx)
theorem A5.head {d:Nat} {l:List Nat} (h:A5 (d::l)):d<4294967296:=h d List.mem_cons_self
theorem A5.at {l:List Nat} (h:A5 l) {i d:Nat} (hd:l[i]? = some d):d<4294967296:=h d (zM hd)
theorem A5.take {l:List Nat} (h:A5 l) (n:Nat):A5 (l.take n):=fun x hx=>h x (List.mem_of_mem_take hx)
theorem A5.drop {l:List Nat} (h:A5 l) (n:Nat):A5 (l.drop n):=fun x hx=>h x (List.mem_of_mem_drop hx)
theorem RV:A5 []:=fun _ h=>by cases h
theorem A5.append {a b:List Nat} (h:A5 a) (h':A5 b):A5 (a++b):=fun x hx=>(List.mem_append.1 hx).elim (h x) (h' x)
theorem G6 {d:Nat} (h:d<4294967296):A5 [d]:=fun x hx=>by simp at hx;omega
theorem A5.set {l:List Nat} (h:A5 l) (i:Nat) {d:Nat} (hd:d<4294967296):A5 (l.set i d):=fun x hx=>by
 rcases List.mem_or_eq_of_mem_set hx with h1|h1
 ·exact h x h1
 ·omega
theorem IQ (n:Nat):A5 (List.replicate n 0):=fun x hx=>by rw[(List.mem_replicate.1 hx).2];omega
theorem SY (a b:List Nat):val (a++b)=val a+4294967296^a.length*val b:=by
 induction a with
 | nil=>simp [val]
 | cons d l ih=>rw[List.cons_append,OZ,OZ,ih,List.length_cons,Nat.pow_succ];grind
theorem NL (l:List Nat) (v:Nat):val (l++[v])=val l+4294967296^l.length*v:=by
 rw[SY];simp [val]
theorem EV {l:List Nat} (h:A5 l):val l<4294967296^l.length:=by
 induction l with
 | nil=>simp [val]
 | cons d l ih =>
  have h1:=ih h.tail
  have h2:=h.head
  rw[OZ,List.length_cons,Nat.pow_succ]
  omega
theorem DW {l:List Nat} {i v:Nat} (h:l[i]? = some v):val (l.take (i+1))=val (l.take i)+4294967296^i*v:=by
 have hi:=(zS h).1
 rw[List.take_add_one,h,Option.toList_some,NL,List.length_take,Nat.min_eq_left (by omega)]
theorem L9 (l:List Nat) (i:Nat) (h:i<=l.length):val l=val (l.take i)+4294967296^i*val (l.drop i):=by
 have:=SY (l.take i) (l.drop i)
 rw[List.take_append_drop,List.length_take,Nat.min_eq_left h]at this
 exact this
theorem YC (n:Nat):val (List.replicate n 0)=0:=by
 induction n with
 | zero=>rfl
 | succ n ih=>rw[List.replicate_succ,OZ,ih]
theorem yR {l:List Nat} (h:A5 l) (ht:l=[] \/ ∃ d,l[l.length-1]? = some d/\d≠0):dg (val l)=l:=by
 induction l with
 | nil=>exact ET
 | cons d l ih =>
  have h1:=h.head
  by_cases hl:l=[]
  ·subst hl
   rcases ht with ht|⟨x,hx,hx0⟩
   ·cases ht
   ·simp at hx
    subst hx
    rw[OZ,IJ,IP (by omega),show (d+4294967296*0)/4294967296=0 by omega,ET,show (d+4294967296*0)%4294967296=d by omega]
  ·have ht' : ∃ x,l[l.length-1]? = some x/\x≠0:=by
    rcases ht with ht|⟨x,hx,hx0⟩
    ·cases ht
    ·refine ⟨x,?_,hx0⟩
     have:l.length≠0:=fun e=>hl (List.eq_nil_of_length_eq_zero e)
     rw[List.length_cons,show l.length+1-1=(l.length-1)+1 by omega,List.getElem?_cons_succ]at hx
     exact hx
   have ih':=ih h.tail (Or.inr ht')
   have hpos:val l≠0:=by
    intro e
    rw[e,ET]at ih'
    exact hl ih'.symm
   rw[OZ,IP (by omega),show (d+4294967296*val l)/4294967296=val l by omega,ih',show (d+4294967296*val l)%4294967296=d by omega]
theorem FZ {l:List Nat} (h:A5 l) {n:Nat} (hn:n<=l.length) (hz : ∀ i,n<=i->i<l.length->l[i]? = some 0) (ht:n=0 \/ ∃ d,l[n-1]? = some d/\d≠0):l.take n=dg (val l):=by
 have hv:val l=val (l.take n):=by
  have h0:l.drop n=List.replicate (l.length-n) 0:=by
   apply List.ext_getElem?
   intro i
   rw[List.getElem?_drop,List.getElem?_replicate]
   by_cases hi:n+i<l.length
   ·rw[hz (n+i) (by omega) hi,if_pos (by omega)]
   ·rw[List.getElem?_eq_none (by omega),if_neg (by omega)]
  rw[L9 l n hn,h0,YC];omega
 rw[hv]
 refine (yR (h.take n) ?_).symm
 rcases ht with rfl|⟨d,hd,hd0⟩
 ·exact Or.inl (by simp)
 ·have hlt:=(zS hd).1
  by_cases hn0:n=0
  ·subst hn0;exact Or.inl (by simp)
  ·refine Or.inr ⟨d,?_,hd0⟩
   rw[List.length_take,Nat.min_eq_left hn,List.getElem?_take,if_pos (by omega)]
   exact hd
theorem NY {n k:Nat}:(dg n).length<=k↔n<4294967296^k:=by
 induction k generalizing n with
 | zero =>
  by_cases h:n=0
  ·subst h;simp [ET]
  ·rw[IP h];simp;omega
 | succ k ih =>
  by_cases h:n=0
  ·subst h;simp [ET];exact Nat.pos_of_ne_zero (by simp)
  ·rw[IP h,List.length_cons,Nat.succ_le_succ_iff,ih,Nat.pow_succ]
   rw[Nat.div_lt_iff_lt_mul (by omega)]
theorem EN {l:List Nat} (h:A5 l):(dg (val l)).length<=l.length:=NY.2 (EV h)
theorem ZF {n:Nat} (h:n≠0) : ∃ d,(dg n)[(dg n).length-1]? = some d/\d≠0:=by
 induction n using Nat.strongRecOn with
 | ind n ih =>
  rw[IP h]
  by_cases h2:n/4294967296=0
  ·rw[h2,ET]
   exact ⟨n%4294967296,by simp,by omega⟩
  ·obtain ⟨d,hd,hd0⟩:=ih _ (by omega) h2
   refine ⟨d,?_,hd0⟩
   have hl:(dg (n/4294967296)).length≠0:=fun e=>by rw[List.eq_nil_of_length_eq_zero e]at hd;simp at hd
   rw[List.length_cons,show (dg (n/4294967296)).length+1-1=(dg (n/4294967296)).length-1+1 by omega,List.getElem?_cons_succ]
   exact hd
theorem ZD {n:Nat}:dg n=[]↔n=0:=by
 constructor
 ·intro h
  by_cases h0:n=0
  ·exact h0
  ·rw[IP h0]at h;cases h
 ·rintro rfl;exact ET
theorem TQ {n:Nat} (h:n≠0):1<=(dg n).length:=by rw[IP h];simp
theorem Agn {o:List Nat} {i v:Nat} (h:i<o.length):(o.set i v).take (i+1)=o.take i++[v]:=by
 rw[List.take_add_one,List.getElem?_set_self h,List.take_set_of_le (Nat.le_refl i)];rfl
theorem FO {o:List Nat} {i v:Nat} (h:i<o.length):val ((o.set i v).take (i+1))=val (o.take i)+4294967296^i*v:=by
 rw[Agn h,NL,List.length_take,Nat.min_eq_left (by omega)]
theorem OD (V p t:Nat):V+p*(t%4294967296)+p*4294967296*(t/4294967296)=V+p*t:=by
 have h:=Nat.mod_add_div t 4294967296
 have:p*(t%4294967296)+p*4294967296*(t/4294967296)=p*t:=by
  rw[Nat.mul_assoc,<-Nat.mul_add,h]
 omega
theorem C7 {l:List Nat} {n:Nat} (h:l.length<=n):val (l.take n)=val l:=by rw[List.take_of_length_le h]
theorem pF (i:Nat):1<=4294967296^i:=Nat.pos_of_ne_zero (by simp)
theorem GZ {l:List Nat} {i d:Nat} (h:l[i]? = some d):val (l.drop i)=d+4294967296*val (l.drop (i+1)):=by
 obtain ⟨hi,rfl⟩:=zS h
 rw[List.drop_eq_getElem_cons hi,OZ]
theorem X8 {a b:List Nat} (ha:A5 a) (hb:A5 b) (hl:a.length=b.length) {i:Nat} {x y:Nat} (hx:a[i]? = some x) (hy:b[i]? = some y) (he:a.drop (i+1)=b.drop (i+1)) (h:x<y):val a<val b:=by
 have hia:=(zS hx).1
 have hib:=(zS hy).1
 rw[L9 a i (by omega),L9 b i (by omega),GZ hx,GZ hy,he]
 have h1:=EV (ha.take i)
 rw[List.length_take,Nat.min_eq_left (by omega)]at h1
 generalize val (b.drop (i+1))=r
 generalize 4294967296^i=p at *
 have:p*(x+4294967296*r)+p<=p*(y+4294967296*r):=by
  rw[<-Nat.mul_succ]
  exact Nat.mul_le_mul_left p (by omega)
 omega
theorem X9 {o:List Nat} {k v old:Nat} (h:o[k]? = some old):val (o.set k v)+4294967296^k*old=val o+4294967296^k*v:=by
 have hk:=(zS h).1
 have h1:val (o.set k v)=val (o.take k)+4294967296^k*(v+4294967296*val (o.drop (k+1))):=by
  rw[L9 (o.set k v) k (by simp;omega),List.take_set_of_le (Nat.le_refl k),GZ (l:=o.set k v) (d:=v) (by rw[List.getElem?_set_self hk]),List.drop_set_of_lt (by omega)]
 have h2:val o=val (o.take k)+4294967296^k*(old+4294967296*val (o.drop (k+1))):=by
  rw[L9 o k (by omega),GZ h]
 rw[h1,h2,Nat.mul_add,Nat.mul_add]
 omega
theorem U8 {l:List Nat} (h:A5 l):l.take (dg (val l)).length=dg (val l):=by
 induction l with
 | nil=>rw[IJ,ET];rfl
 | cons d l ih =>
  have h1:=h.head
  by_cases h0:val (d::l)=0
  ·rw[h0,ET];rfl
  ·rw[IP h0,OZ,show (d+4294967296*val l)/4294967296=val l by omega,show (d+4294967296*val l)%4294967296=d by omega,List.length_cons,List.take_succ_cons,ih h.tail]
theorem SZ {a b:Nat} (h:(dg a).length<(dg b).length):a<b:=by
 have h1:a<4294967296^(dg a).length:=NY.1 (Nat.le_refl _)
 have h2 : ¬ b<4294967296^((dg b).length-1):=fun h3=>by have:=NY.2 h3;omega
 have h3:4294967296^(dg a).length<=4294967296^((dg b).length-1):=Nat.pow_le_pow_right (by omega) (by omega)
 omega
end Go.Eng

namespace Go.Eng
def YI (a b c d:Int):Prop:=(0<=a/\b<=0/\c<=0/\0<=d)\/(a<=0/\0<=b/\0<=c/\d<=0)
structure PY (P Q a b c d p q:Int):Prop where
 hp:p=a*P+b*Q
 hq:q=c*P+d*Q
 sg:YI a b c d
 pa:0<=p+a
 pb:0<=p+b
 qc:0<=q+c
 qd:0<=q+d
theorem PY.start {P Q:Int} (hP:0<=P) (hQ:0<=Q):PY P Q 1 0 0 1 P Q :=
 ⟨by omega,by omega,Or.inl (by omega),by omega,by omega,by omega,by omega⟩
def S7 (P Q a b c d:Int):Prop := ∀ x y K e1 e2:Int,0<K->x=K*P+e1->y=K*Q+e2->0<=e1->e1<=K->0<=e2->e2<=K ->
 0<=c*x+d*y/\c*x+d*y<a*x+b*y/\a*x+b*y<=y/\Int.gcd (a*x+b*y) (c*x+d*y)=Int.gcd x y
def RI (P Q a b c d:Int):Prop := ∀ x y K e1 e2:Int,0<K->x=K*P+e1->y=K*Q+e2->0<=e1->e1<=K->0<=e2->e2<=K ->
 c*x+d*y<=y/\Int.gcd (a*x+b*y) (c*x+d*y)=Int.gcd x y
theorem RI.start (P Q:Int):RI P Q 1 0 0 1:=by
 intro x y K e1 e2 _ _ _ _ _ _ _
 simp
theorem S7.half {P Q a b c d:Int} (h:S7 P Q a b c d):RI P Q a b c d:=fun x y K e1 e2 h1 h2 h3 h4 h5 h6 h7=>by
 obtain ⟨g1,g2,g3,g4⟩:=h x y K e1 e2 h1 h2 h3 h4 h5 h6 h7
 exact ⟨by omega,g4⟩
theorem AbO (X Y f:Int):Int.gcd Y (X-f*Y)=Int.gcd X Y:=by
 rw[Int.gcd_comm X Y]
 exact Int.gcd_sub_mul_right_right Y X f
theorem PY.step {P Q a b c d p q f:Int} (h:PY P Q a b c d p q) (hc:q+c≠0) (hd:q+d≠0) (h1:f=(p+a)/(q+c)) (h2:f=(p+b)/(q+d)) :
  PY P Q c d (a-f*c) (b-f*d) q (p-f*q)/\0<=f/\p-f*q<q/\(RI P Q a b c d->S7 P Q c d (a-f*c) (b-f*d)):=by
 have c0:0<q+c:=by have:=h.qc;omega
 have d0:0<q+d:=by have:=h.qd;omega
 have f0:0<=f:=by rw[h1];exact Int.ediv_nonneg h.pa h.qc
 have m1:p-f*q+(a-f*c)=(p+a)%(q+c):=by
  have:=Int.emod_add_mul_ediv (p+a) (q+c)
  rw[<-h1]at this
  grind
 have m2:p-f*q+(b-f*d)=(p+b)%(q+d):=by
  have:=Int.emod_add_mul_ediv (p+b) (q+d)
  rw[<-h2]at this
  grind
 have n1:0<=p-f*q+(a-f*c):=by rw[m1];exact Int.emod_nonneg _ hc
 have n2:0<=p-f*q+(b-f*d):=by rw[m2];exact Int.emod_nonneg _ hd
 have n3:p-f*q+(a-f*c)<q+c:=by rw[m1];exact Int.emod_lt_of_pos _ c0
 have n4:p-f*q+(b-f*d)<q+d:=by rw[m2];exact Int.emod_lt_of_pos _ d0
 have hq':p-f*q=(a-f*c)*P+(b-f*d)*Q:=by rw[h.hp,h.hq];grind
 have hsg:YI c d (a-f*c) (b-f*d):=by
  rcases h.sg with ⟨s1,s2,s3,s4⟩|⟨s1,s2,s3,s4⟩
  ·have t1:f*c<=0:=Int.mul_nonpos_of_nonneg_of_nonpos f0 s3
   have t2:0<=f*d:=Int.mul_nonneg f0 s4
   exact Or.inr (by omega)
  ·have t1:0<=f*c:=Int.mul_nonneg f0 s3
   have t2:f*d<=0:=Int.mul_nonpos_of_nonneg_of_nonpos f0 s4
   exact Or.inl (by omega)
 have hlt:p-f*q<q:=by
  rcases hsg with ⟨s1,s2,s3,s4⟩|⟨s1,s2,s3,s4⟩
  ·omega
  ·omega
 refine ⟨⟨h.hq,hq',hsg,h.qc,h.qd,n1,n2⟩,f0,hlt,fun hh => ?_⟩
 intro x y K e1 e2 hK hx hy a1 a2 b1 b2
 obtain ⟨k1,k2⟩:=hh x y K e1 e2 hK hx hy a1 a2 b1 b2
 have eY:c*x+d*y=K*q+c*e1+d*e2:=by rw[hx,hy,h.hq];grind
 have eX:(a-f*c)*x+(b-f*d)*y=K*(p-f*q)+(a-f*c)*e1+(b-f*d)*e2:=by rw[hx,hy,hq'];grind
 have eS:(a-f*c)*x+(b-f*d)*y=(a*x+b*y)-f*(c*x+d*y):=by grind
 generalize hE:a-f*c=E at *
 generalize hG:b-f*d=G at *
 generalize hq2:p-f*q=q2 at *
 have key:0<=E*x+G*y/\E*x+G*y<c*x+d*y:=by
  rw[eX,eY]
  rcases hsg with ⟨s1,s2,s3,s4⟩|⟨s1,s2,s3,s4⟩
  ·-- c≥0,d<=0,E<=0,G≥0
   have t1:E*K<=E*e1:=Int.mul_le_mul_of_nonpos_left s3 a2
   have t2:0<=G*e2:=Int.mul_nonneg s4 b1
   have t3:0<=K*(q2+E):=Int.mul_nonneg (by omega) n1
   have t4:(G-d)*e2<=(G-d)*K:=Int.mul_le_mul_of_nonneg_left b2 (by omega)
   have t5:(E-c)*e1<=0:=Int.mul_nonpos_of_nonpos_of_nonneg (by omega) a1
   have t6:0<K*((q+d)-(q2+G)):=Int.mul_pos hK (by omega)
   constructor
   ·grind
   ·grind
  ·have t1:G*K<=G*e2:=Int.mul_le_mul_of_nonpos_left s4 b2
   have t2:0<=E*e1:=Int.mul_nonneg s3 a1
   have t3:0<=K*(q2+G):=Int.mul_nonneg (by omega) n2
   have t4:(E-c)*e1<=(E-c)*K:=Int.mul_le_mul_of_nonneg_left a2 (by omega)
   have t5:(G-d)*e2<=0:=Int.mul_nonpos_of_nonpos_of_nonneg (by omega) b1
   have t6:0<K*((q+c)-(q2+E)):=Int.mul_pos hK (by omega)
   constructor
   ·grind
   ·grind
 refine ⟨key.1,key.2,k1,?_⟩
 rw[<-k2,eS]
 exact AbO _ _ _
end Go.Eng

namespace Go.Eng
section
variable {U V UL VL p u0 u1 u2 v1 v2 top q r:Nat}
theorem AbY (hU:U=UL+p*(u2+4294967296*top)) (hV:V=VL+p*(v2+4294967296*v1)) (hl:UL<p) (h2:u2<4294967296) (hV0:0<V):U/V*v1<=top:=by
 have h1:U/V*V<=U:=Nat.div_mul_le_self U V
 generalize U/V=Q at *
 have h3:U<p*(4294967296*(top+1)):=by
  have:p*(u2+4294967296*top)+p<=p*(4294967296*(top+1)):=by
   rw[<-Nat.mul_succ];exact Nat.mul_le_mul_left p (by omega)
  omega
 have h4:p*(4294967296*(Q*v1))<=Q*V:=by
  have e:Q*V=Q*VL+Q*(p*v2)+p*(4294967296*(Q*v1)):=by rw[hV];grind
  omega
 have h5:p*(4294967296*(Q*v1))<p*(4294967296*(top+1)):=by omega
 have:=Nat.lt_of_mul_lt_mul_left h5
 omega
theorem AbX (hU:U=UL+p*(u2+4294967296*top)) (hV:V=VL+p*(v2+4294967296*v1)) (hl:UL<p) (hq:q*v1+r=top) (h:r*4294967296+u2<q*v2) (hV0:0<V):U/V<q:=by
 rw[Nat.div_lt_iff_lt_mul hV0]
 have e:q*V=q*VL+p*(q*v2+4294967296*(q*v1)):=by rw[hV];grind
 have h1:p*(u2+4294967296*top)+p<=p*(q*v2+4294967296*(q*v1)):=by
  rw[<-Nat.mul_succ];exact Nat.mul_le_mul_left p (by omega)
 omega
theorem AbW (h:U<4294967296*V) (hq:4294967296<=q) (hV0:0<V):U/V<q:=by
 have:U/V<4294967296:=(Nat.div_lt_iff_lt_mul hV0).2 h
 omega
theorem mC (hU:U=UL+p*(u2+4294967296*top)) (hV:V=VL+p*(v2+4294967296*v1)) (hVl:VL<p) (h1:2147483648<=v1) (hq:q*v1+r=top) (h:q*v2<=r*4294967296+u2) (hqB:q<4294967296):q<=U/V+1:=by
 have hV0:0<V:=by
  have:p*4294967296<=p*(v2+4294967296*v1):=Nat.mul_le_mul_left p (by omega)
  omega
 by_cases h0:q=0
 ·subst h0;exact Nat.zero_le _
 have e:q*V=q*VL+p*(q*v2+4294967296*(q*v1)):=by rw[hV];grind
 have h2:p*(q*v2+4294967296*(q*v1))<=p*(u2+4294967296*top):=Nat.mul_le_mul_left p (by omega)
 have h3:q*VL<V:=by
  have a1:q*VL<=4294967296*VL:=Nat.mul_le_mul_right _ (by omega)
  have a2:p*4294967296<=p*(v2+4294967296*v1):=Nat.mul_le_mul_left p (by omega)
  omega
 have h4:(q-1)*V<U+1:=by
  have:(q-1)*V+V=q*V:=by
   have:q=q-1+1:=by omega
   rw[<-Nat.succ_mul,Nat.succ_eq_add_one,<-this]
  omega
 have h5:q-1<=U/V:=(Nat.le_div_iff_mul_le hV0).2 (by omega)
 omega
end
theorem iS {U V U' q:Nat} (hV0:0<V) (h1:U/V<=q) (h:U'+q*V=U):q=U/V/\U'=U%V:=by
 have h2:q*V<=U:=by omega
 have h3:q<=U/V:=(Nat.le_div_iff_mul_le hV0).2 h2
 have h4:q=U/V:=by omega
 have:=Nat.div_add_mod U V
 rw[Nat.mul_comm,<-h4]at this
 exact ⟨h4,by omega⟩
theorem iR {U V U' q P:Nat} (hV0:0<V) (h2:q<=U/V+1) (hU':U'<P) (h:U'+q*V=U+P):q-1=U/V/\1<=q/\U'+V=U%V+P:=by
 have h3:U/V*V<=U:=Nat.div_mul_le_self U V
 have h4:U/V<q:=by
  rcases Nat.lt_or_ge (U/V) q with h|h
  ·exact h
  ·have:q*V<=U/V*V:=Nat.mul_le_mul_right _ h
   omega
 have h6:=Nat.div_add_mod U V
 rw[Nat.mul_comm]at h6
 generalize U/V=Q at *
 generalize U%V=R at *
 obtain rfl:q=Q+1:=by omega
 rw[Nat.add_mul,Nat.one_mul]at h
 exact ⟨by omega,by omega,by omega⟩
theorem X4 {u pl bw:Nat} (hu:u<4294967296) (hp:pl<4294967296) (hb:bw<=1):EF (EF u pl) bw%4294967296+pl+bw=u+4294967296*(EF (EF u pl) bw/9223372036854775808)/\EF (EF u pl) bw/9223372036854775808<=1:=by
 rw[RB,RB];omega
theorem AgL {d e bw:Nat} (hu:d<4294967296) (hp:e<4294967296) (hb:bw<=1):EF (EF d bw) e%4294967296+e+bw=d+4294967296*(EF (EF d bw) e/9223372036854775808)/\EF (EF d bw) e/9223372036854775808<=1:=by
 rw[RB,RB];omega
theorem AgK {d bw:Nat} (hu:d<4294967296) (hb:bw<=1):EF d bw%4294967296+bw=d+4294967296*(EF d bw/9223372036854775808)/\EF d bw/9223372036854775808<=1:=by
 rw[RB];omega
theorem rL {V Y X p D e bw bw' d:Nat} (h:V+Y=X+p*bw) (hd:D+e+bw=d+4294967296*bw'):V+p*D+(Y+p*e)=X+p*d+p*4294967296*bw':=by
 have h2:p*D+p*e+p*bw=p*d+p*4294967296*bw':=by
  rw[<-Nat.mul_add,<-Nat.mul_add,hd,Nat.mul_add,Nat.mul_assoc]
 omega
theorem SG {a b:Nat} (ha:a<4294967296) (hb:b<4294967296):a*b<=18446744065119617025 :=
 Nat.mul_le_mul (show a<=4294967295 by omega) (show b<=4294967295 by omega)
theorem iV {X Y s:Nat} (hs:0<s):X*s/(Y*s)=X/Y/\X*s%(Y*s)/s=X%Y:=by
 refine ⟨Nat.mul_div_mul_right X Y hs,?_⟩
 rw[Nat.mul_mod_mul_right,Nat.mul_div_cancel _ hs]
end Go.Eng

namespace Go.Eng
@[irreducible] def OU (d s : Nat) : Nat := d * 2 ^ s % 4294967296
@[irreducible] def Q3 (d s : Nat) : Nat := d * 2 ^ s / 4294967296
theorem dB (d s:Nat):OU d s=d*2^s%4294967296:=by unfold OU;rfl
theorem Q4 (d s:Nat):Q3 d s=d*2^s/4294967296:=by unfold Q3;rfl
theorem PT {s:Nat} (hs:s<=32):4294967296=2^s*2^(32-s):=by
 rw[<-Nat.pow_add,show s+(32-s)=32 by omega]
theorem Ago (d s:Nat):OU d s+4294967296*Q3 d s=d*2^s:=by
 rw[dB,Q4];exact Nat.mod_add_div _ _
theorem qJ {d s:Nat} (hs:s<=32):OU d s=2^s*(d%2^(32-s)):=by
 rw[dB,PT hs,Nat.mul_comm d,Nat.mul_mod_mul_left]
theorem qI {d s:Nat} (hs:s<=32):Q3 d s=d/2^(32-s):=by
 rw[Q4,PT hs,Nat.mul_comm d,Nat.mul_div_mul_left _ _ (Nat.two_pow_pos s)]
theorem Q5 {d s:Nat} (hd:d<4294967296) (hs:s<=32):OU d s%2^s=0/\Q3 d s<2^s/\OU d s+2^s<=4294967296/\d*2^s<=18446744073709551615:=by
 refine ⟨by rw[qJ hs,Nat.mul_mod_right],?_,?_,?_⟩
 ·rw[qI hs,Nat.div_lt_iff_lt_mul (Nat.two_pow_pos _),<-Nat.pow_add,show s+(32-s)=32 by omega];exact hd
 ·rw[qJ hs]
  have h1:d%2^(32-s)+1<=2^(32-s):=Nat.mod_lt _ (Nat.two_pow_pos _)
  have h2:=Nat.mul_le_mul_left (2^s) h1
  rw[Nat.mul_add,Nat.mul_one,<-PT hs]at h2
  exact h2
 ·have h1:2^s<=2^32:=Nat.pow_le_pow_right (by omega) hs
  have h2:d*2^s<=4294967295*4294967296:=Nat.mul_le_mul (by omega) h1
  omega
theorem UV {s:Nat} (hs:s<=32):2^s<=4294967296:=(Nat.pow_le_pow_right (by omega) hs:2^s<=2^32)
theorem nC {V X p lo s d:Nat} (h:V+p*lo=X*2^s):V+p*(OU d s+lo)+p*4294967296*Q3 d s=(X+p*d)*2^s:=by
 have h1:=Ago d s
 have h2:p*(OU d s+lo)+p*4294967296*Q3 d s=p*lo+p*(d*2^s):=by
  rw[<-h1];grind
 rw[Nat.add_mul,<-h,Nat.mul_assoc p d]
 omega
theorem bI {d V s:Nat} (hs:s<=32):(d+4294967296*V)/2^s=d/2^s+V%2^s*2^(32-s)+4294967296*(V/2^s):=by
 have e:4294967296*V=2^s*(2^(32-s)*V):=by rw[<-Nat.mul_assoc,<-PT hs]
 rw[e,Nat.add_mul_div_left _ _ (Nat.two_pow_pos s)]
 have h:=Nat.mod_add_div V (2^s)
 have h2:2^(32-s)*V=V%2^s*2^(32-s)+4294967296*(V/2^s):=by
  have h3:2^(32-s)*V=2^(32-s)*(V%2^s+2^s*(V/2^s)):=by rw[h]
  rw[h3,PT hs];grind
 omega
theorem nG {d V s:Nat} (hs:s<=32):(d+4294967296*V)%2^s=d%2^s:=by
 have e:4294967296*V=2^s*(2^(32-s)*V):=by rw[<-Nat.mul_assoc,<-PT hs]
 rw[e,Nat.add_mul_mod_self_left]
theorem Ac9 {d s:Nat} (hs:s<=32):d*2^(32-s)%4294967296=d%2^s*2^(32-s):=by
 have e:4294967296=2^s*2^(32-s):=PT hs
 rw[e,Nat.mul_mod_mul_right]
theorem nF {d V s:Nat} (hd:d<4294967296) (hs:s<=32):d/2^s<2^(32-s)/\V%2^s*2^(32-s)%2^(32-s)=0/\V%2^s*2^(32-s)+2^(32-s)<=4294967296:=by
 refine ⟨?_,Nat.mul_mod_left _ _,?_⟩
 ·rw[Nat.div_lt_iff_lt_mul (Nat.two_pow_pos _),<-Nat.pow_add,show 32-s+s=32 by omega];exact hd
 ·have h1:V%2^s+1<=2^s:=Nat.mod_lt _ (Nat.two_pow_pos _)
  have h2:=Nat.mul_le_mul_right (2^(32-s)) h1
  rw[Nat.add_mul,Nat.one_mul,<-PT hs]at h2
  exact h2
def blen (x:Nat):Nat:=if x=0 then 0 else x.log2+1
theorem fX {x:Nat} (h:x≠0):2^(blen x-1)<=x/\x<2^blen x/\1<=blen x:=by
 unfold blen
 rw[if_neg h]
 exact ⟨Nat.log2_self_le h,Nat.lt_log2_self,by omega⟩
theorem V4 {x k:Nat} (h:x<2^k):blen x<=k:=by
 by_cases h0:x=0
 ·subst h0;unfold blen;simp
 ·obtain ⟨h1,_,h3⟩:=fX h0
  have h2:2^(blen x-1)<2^k:=by omega
  have:=(Nat.pow_lt_pow_iff_right (by omega)).1 h2
  omega
theorem TG {x:Nat} (n:Nat) (h:2^n<=x):blen (x/2^n)+n=blen x:=by
 have hp:=Nat.two_pow_pos n
 have hx:x≠0:=by omega
 have hq:x/2^n≠0:=by have:=Nat.div_pos h hp;omega
 unfold blen
 rw[if_neg hx,if_neg hq]
 have:(x/2^n).log2+n=x.log2:=by
  symm
  rw[Nat.log2_eq_iff hx]
  have h1:=Nat.log2_self_le hq
  have h2:x/2^n<2^((x/2^n).log2+1):=Nat.lt_log2_self
  rw[Nat.le_div_iff_mul_le hp,<-Nat.pow_add]at h1
  rw[Nat.div_lt_iff_lt_mul hp,<-Nat.pow_add]at h2
  exact ⟨h1,by rw[show (x/2^n).log2+n+1=(x/2^n).log2+1+n by omega];exact h2⟩
 omega
theorem bJ {x:Nat} (h0:x≠0) (hx:x<4294967296):blen x<=32/\1<=blen x/\2147483648<=x*2^(32-blen x)/\x*2^(32-blen x)<4294967296:=by
 obtain ⟨h1,h2,h3⟩:=fX h0
 have hk:blen x<=32:=V4 (k:=32) hx
 refine ⟨hk,h3,?_,?_⟩
 ·have:=Nat.mul_le_mul_right (2^(32-blen x)) h1
  rw[<-Nat.pow_add,show blen x-1+(32-blen x)=31 by omega]at this
  exact this
 ·have:=Nat.mul_lt_mul_of_pos_right h2 (Nat.two_pow_pos (32-blen x))
  rw[<-Nat.pow_add,show blen x+(32-blen x)=32 by omega]at this
  exact this
end Go.Eng

namespace Go.Eng
section
variable {L:Lib}
def Cl.le (C C':Cl):Prop:=(∀ f vs r,C.pure f vs=some r->C'.pure f vs=some r)/\(∀ f vs o r,C.inn f vs o=some r->C'.inn f vs o=some r)/\C.num=C'.num
theorem fQ {x y:Option (AV × AH)} {r:Nat × List (List AV)} (h : ∀ q,x=some q->y=some q) (hr:NQ x=some r):NQ y=some r:=by
 cases x with
 | none=>simp [NQ]at hr
 | some q=>rw[h q rfl];exact hr
theorem AaD {C C':Cl} (h:C.le C') {ban:List Nat} {ρ:AQ->AV} {own:AH} {op:D7} {E:CP} (he:eff C ban ρ own op=some E):eff C' ban ρ own op=some E:=by
 cases op with
 | call f xs =>
  simp only[eff]at he ⊢
  split at he
  ·rename_i vs hvs
   simp only[Option.map_eq_some_iff]at he ⊢
   obtain ⟨r,hr,rfl⟩:=he
   exact ⟨r,h.1 f vs r hr,rfl⟩
  ·cases he
 | calli f xs =>
  simp only[eff,Option.map_eq_some_iff]at he ⊢
  obtain ⟨r,hr,rfl⟩:=he
  exact ⟨r,h.2.1 f _ own r hr,rfl⟩
 | mkf p f xs=>simp only[eff]at he ⊢;rw[<-h.2.2];exact he
 | cals s f xs =>
  simp only[eff,Option.map_eq_some_iff]at he ⊢
  obtain ⟨p,hp,rfl⟩:=he
  exact ⟨p,V8.2 fun o ho=>h.2.1 f _ o _ (V8.1 hp o ho),rfl⟩
 | callr s f xs =>
  simp only[eff]at he ⊢
  split at he
  ·rename_i vs hvs
   simp only[Option.map_eq_some_iff]at he ⊢
   obtain ⟨r,hr,rfl⟩:=he
   exact ⟨r,fQ (h.2.1 f vs AH.emp) hr,rfl⟩
  ·cases he
 | callq f xs =>
  simp only[eff]at he ⊢
  split at he
  ·rename_i hq
   rw[if_pos hq]
   split at he
   ·rename_i r hr
    rw[h.1 _ _ r hr]
    exact he
   ·cases he
  ·cases he
 | callv x xs =>
  simp only[eff]at he ⊢
  rw[<-h.2.2]
  split at he
  ·split at he
   ·rename_i hg
    rw[if_pos hg]
    split at he
    ·split at he
     ·rename_i vs hvs
      simp only[Option.map_eq_some_iff]at he ⊢
      obtain ⟨r,hr,rfl⟩:=he
      exact ⟨r,h.1 _ vs r hr,rfl⟩
     ·cases he
    ·simp only[Option.map_eq_some_iff]at he ⊢
     obtain ⟨r,hr,rfl⟩:=he
     exact ⟨r,h.2.1 _ _ own r hr,rfl⟩
    ·cases he
   ·cases he
  ·cases he
 | _=>exact he
theorem AgF {C C':Cl} (h:C.le C') {o:AI} {st st':St} (he:DB C o st=some st'):DB C' o st=some st':=by
 unfold DB at he ⊢
 split at he
 ·simp only[Option.map_eq_some_iff]at he ⊢
  obtain ⟨E,h1,h2⟩:=he
  exact ⟨E,AaD h h1,h2⟩
 ·exact he
 ·exact he
theorem OW {C C':Cl} (h:C.le C') : ∀ {l:List AI} {st st':St},DC C l st=some st'->DC C' l st=some st'
 | [],st,st',he=>he
 | o::r,st,st',he=>by
  simp only[DC]at he ⊢
  cases hs:DB C o st with
  | none=>simp [hs]at he
  | some BD =>
   rw[AgF h hs]
   simp only[hs]at he
   exact OW h he
theorem MW {C C':Cl} (h:C.le C') : ∀ {n n':Nat} {k:List It} {st st':St},n<=n'->run C n k st=some st'->run C' n' k st=some st':=by
 intro n
 induction n with
 | zero=>intro n' k st st' _ hr;simp [run]at hr
 | succ n ih =>
  intro n' k st st' hn hr
  obtain ⟨q,rfl⟩ : ∃ q,n'=q+1:=⟨n'-1,by omega⟩
  have hq:n<=q:=by omega
  cases k with
  | nil=>exact hr
  | cons it k =>
   cases it with
   | blk id=>simp only[run]at hr ⊢;exact ih hq hr
   | drp ts ss=>simp only[run]at hr ⊢;exact ih hq hr
   | lp c=>simp only[run]at hr ⊢;exact ih hq hr
   | code c =>
    cases c with
    | skip=>simp only[run]at hr ⊢;exact ih hq hr
    | ops l d =>
     simp only[run]at hr ⊢
     cases hs:DC C l st with
     | none=>simp [hs]at hr
     | some BD =>
      rw[OW h hs]
      simp only[hs]at hr
      exact ih hq hr
    | dr c ts ss=>simp only[run]at hr ⊢;exact ih hq hr
    | scope c=>simp only[run]at hr ⊢;exact ih hq hr
    | seq a b=>simp only[run]at hr ⊢;exact ih hq hr
    | cond x a b =>
     simp only[run]at hr ⊢
     split at hr
     ·exact ih hq hr
     ·exact ih hq hr
     ·cases hr
    | block id c=>simp only[run]at hr ⊢;exact ih hq hr
    | loop c=>simp only[run]at hr ⊢;exact ih hq hr
    | exit id =>
     simp only[run]at hr ⊢
     split at hr
     ·exact ih hq hr
     ·cases hr
    | ret=>exact hr
theorem UW {I I':List AV->Option (AV × AH)} (hI : ∀ vs r,I vs=some r->I' vs=some r) {vs:List AV} {r:AV} (h:H4 I vs=some r):H4 I' vs=some r:=by
 unfold H4 at h ⊢
 cases he:I vs with
 | none=>simp [he]at h
 | some x=>rw[hI vs _ he];simpa [he] using h
theorem AfT {b:Bool} {I I':List AV->Option (AV × AH)} (hI : ∀ vs r,I vs=some r->I' vs=some r) {vs:List AV} {r:AV} (h:MT b I vs=some r):MT b I' vs=some r:=by
 unfold MT at h ⊢
 split at h
 ·split at h
  ·rename_i r1 r2 h1 h2
   rw[UW hI h1,UW hI h2]
   exact h
  ·cases h
 ·exact UW hI h
theorem kI : ∀ (n:Nat),(C5 L n).le (C5 L (n+1)):=by
 have inn : ∀ n,(∀ f vs o r,DK L n f vs o=some r->DK L (n+1) f vs o=some r) -> ∀ f vs r,HL L n f vs=some r->HL L (n+1) f vs=some r:=by
  intro n hI f vs r h
  exact AfT (fun vs r h=>hI f vs _ r h) h
 intro n
 induction n with
 | zero =>
  have : ∀ f vs o r,DK L 0 f vs o=some r->DK L 1 f vs o=some r:=fun f vs o r h=>by simp [DK]at h
  exact ⟨inn 0 this,this,rfl⟩
 | succ n ih =>
  have : ∀ f vs o r,DK L (n+1) f vs o=some r->DK L (n+2) f vs o=some r:=fun f vs o r h=>by
   rw[TV]at h ⊢
   cases hL:L f with
   | none=>simp [hL]at h
   | some fn =>
    simp only[hL]at h ⊢
    split at h
    ·rename_i hp
     rw[if_pos hp]
     cases hr:run (C5 L n) n [.code fn.body] ⟨CZ 0 vs,o⟩ with
     | none=>simp [hr]at h
     | some st =>
      rw[MW ih (Nat.le_succ n) hr]
      simpa [hr] using h
    ·cases h
  exact ⟨inn (n+1) this,this,rfl⟩
theorem FE {n n':Nat} (h:n<=n'):(C5 L n).le (C5 L n'):=by
 induction h with
 | refl=>exact ⟨fun _ _ _ h=>h,fun _ _ _ _ h=>h,rfl⟩
 | step _ ih=>exact ⟨fun f vs r h=>(kI _).1 f vs r (ih.1 f vs r h),fun f vs o r h=>(kI _).2.1 f vs o r (ih.2.1 f vs o r h),rfl⟩
def Ev (L:Lib) (f:Nat) (vs:List AV) (r:AV):Prop := ∃ n,HL L n f vs=some r
def FI (L:Lib) (f:Nat) (vs:List AV) (r:AV):Prop := ∃ n,H4 (fun vs=>DK L n f vs AH.emp) vs=some r
def GC (L:Lib) (f:Nat) (vs:List AV) (o:AH) (r:AV) (o':AH):Prop := ∃ n,DK L n f vs o=some (r,o')
def MZ (L:Lib) (f:Nat) (vs:List AV) (z:Nat) (es:List (List AV)):Prop := ∃ n,NQ (DK L n f vs AH.emp)=some (z,es)
theorem Ev.det {f:Nat} {vs:List AV} {r r':AV} (h:Ev L f vs r) (h':Ev L f vs r'):r=r':=by
 obtain ⟨n,hn⟩:=h
 obtain ⟨n',hn'⟩:=h'
 have h1:=(FE (L:=L) (Nat.le_max_left n n')).1 f vs r hn
 have h2:=(FE (L:=L) (Nat.le_max_right n n')).1 f vs r' hn'
 rw[h1]at h2
 exact Option.some.inj h2
theorem GC.det {f:Nat} {vs:List AV} {o:AH} {r r':AV} {o1 o2:AH} (h:GC L f vs o r o1) (h':GC L f vs o r' o2):r=r'/\o1=o2:=by
 obtain ⟨n,hn⟩:=h
 obtain ⟨n',hn'⟩:=h'
 have h1:=(FE (L:=L) (Nat.le_max_left n n')).2.1 f vs o _ hn
 have h2:=(FE (L:=L) (Nat.le_max_right n n')).2.1 f vs o _ hn'
 rw[h1]at h2
 simpa using h2
def AK (L:Lib) (k:List It) (st:St) (Q:St->Prop):Prop := ∃ n c st',run (C5 L c) n k st=some st'/\Q st'
def AO (L:Lib) (l:List AI) (k:List It) (st:St) (Q:St->Prop):Prop := ∃ n c BD st',DC (C5 L c) l st=some BD/\run (C5 L c) n k BD=some st'/\Q st'
variable {k:List It} {st:St} {Q:St->Prop}
theorem MG {it:It} {k':List It} {BD:St} (h : ∀ (C:Cl) (n:Nat),run C (n+1) (it::k) st=run C n k' BD):AK L (it::k) st Q↔AK L k' BD Q:=by
 constructor
 ·rintro ⟨n,c,st',hr,hq⟩
  cases n with
  | zero=>simp [run]at hr
  | succ n=>exact ⟨n,c,st',by rw[<-h];exact hr,hq⟩
 ·rintro ⟨n,c,st',hr,hq⟩
  exact ⟨n+1,c,st',by rw[h];exact hr,hq⟩
theorem tC:AK L [] st Q↔Q st:=by
 constructor
 ·rintro ⟨n,c,st',hr,hq⟩
  cases n with
  | zero=>simp [run]at hr
  | succ n=>simp only[run,Option.some.injEq]at hr;exact hr ▸ hq
 ·exact fun h=>⟨1,0,st,rfl,h⟩
theorem sS {id:Nat}:AK L (.blk id::k) st Q↔AK L k st Q:=MG fun _ _=>rfl
theorem sW {ts ss:List Nat}:AK L (.drp ts ss::k) st Q↔AK L k ⟨tdrop st.tm ts,st.own.drop ss⟩ Q:=MG fun _ _=>rfl
theorem eB {c:AL}:AK L (.lp c::k) st Q↔AK L (.code c :: .lp c::k) st Q:=MG fun _ _=>rfl
theorem tH:AK L (.code .skip::k) st Q↔AK L k st Q:=MG fun _ _=>rfl
theorem sV {c:AL} {ts ss:List Nat}:AK L (.code (.dr c ts ss)::k) st Q↔AK L (.code c :: .drp ts ss::k) st Q:=MG fun _ _=>rfl
theorem tF {c:AL}:AK L (.code (.scope c)::k) st Q↔AK L (.code c::k) st Q:=MG fun _ _=>rfl
theorem tG {a b:AL}:AK L (.code (.seq a b)::k) st Q↔AK L (.code a :: .code b::k) st Q:=MG fun _ _=>rfl
theorem sT {id:Nat} {c:AL}:AK L (.code (.block id c)::k) st Q↔AK L (.code c :: .blk id::k) st Q:=MG fun _ _=>rfl
theorem sY {c:AL}:AK L (.code (.loop c)::k) st Q↔AK L (.code c :: .lp c::k) st Q:=MG fun _ _=>rfl
theorem sX {id:Nat} {k':List It} (h:DP id k=some k'):AK L (.code (.exit id)::k) st Q↔AK L k' st Q:=MG fun C n=>by simp [run,h]
theorem tE:AK L (.code .ret::k) st Q↔Q st:=by
 constructor
 ·rintro ⟨n,c,st',hr,hq⟩
  cases n with
  | zero=>simp [run]at hr
  | succ n=>simp only[run,Option.some.injEq]at hr;exact hr ▸ hq
 ·exact fun h=>⟨1,0,st,rfl,h⟩
theorem sU {x:AQ} {a b:AL} {t:Bool} (h:st.ev x = .bool t):AK L (.code (.cond x a b)::k) st Q↔if t=true then AK L (.code a::k) st Q else AK L (.code b::k) st Q:=by
 cases t
 ·simpa using MG (k' := .code b::k) (BD:=st) fun C n=>by simp [run,h]
 ·simpa using MG (k' := .code a::k) (BD:=st) fun C n=>by simp [run,h]
theorem tD {l:List AI} {d:Bool}:AK L (.code (.ops l d)::k) st Q↔AO L l k st Q:=by
 constructor
 ·rintro ⟨n,c,st',hr,hq⟩
  cases n with
  | zero=>simp [run]at hr
  | succ n =>
   simp only[run]at hr
   split at hr
   ·rename_i BD hs
    exact ⟨n,c,BD,st',hs,hr,hq⟩
   ·cases hr
 ·rintro ⟨n,c,BD,st',hs,hr,hq⟩
  exact ⟨n+1,c,st',by simp [run,hs,hr],hq⟩
theorem tQ:AO L [] k st Q↔AK L k st Q:=by
 constructor
 ·rintro ⟨n,c,BD,st',hs,hr,hq⟩
  simp only[DC,Option.some.injEq]at hs
  exact ⟨n,c,st',hs ▸ hr,hq⟩
 ·rintro ⟨n,c,st',hr,hq⟩
  exact ⟨n,c,st,st',rfl,hr,hq⟩
theorem tT {o:AI} {l:List AI} {BD:St} (h : ∀ C,DB C o st=some BD):AO L (o::l) k st Q↔AO L l k BD Q:=by
 constructor
 ·rintro ⟨n,c,BW,st',hs,hr,hq⟩
  simp only[DC,h]at hs
  exact ⟨n,c,BW,st',hs,hr,hq⟩
 ·rintro ⟨n,c,BW,st',hs,hr,hq⟩
  exact ⟨n,c,BW,st',by simpa only[DC,h] using hs,hr,hq⟩
theorem tR {d:Option Nat} {op:D7} {g:Option (Nat × Bool)} {ban:List Nat} {l:List AI} (h:FF st g=some false):AO L (⟨d,op,g,ban⟩::l) k st Q↔AO L l k (st.dst d (.tup [])) Q :=
 tT fun C=>by simp [DB,h]
theorem WA (c:Nat):(C5 L c).num=L.num:=rfl
theorem tS {d:Option Nat} {op:D7} {g:Option (Nat × Bool)} {ban:List Nat} {l:List AI} {E:CP} (h:FF st g=some true) (he : ∀ c,eff (C5 L c) ban st.ev st.own op=some E):AO L (⟨d,op,g,ban⟩::l) k st Q↔AO L l k (st.app d E) Q:=by
 have h : ∀ c,DB (C5 L c) ⟨d,op,g,ban⟩ st=some (st.app d E):=fun c=>by simp [DB,h,he]
 constructor
 ·rintro ⟨n,c,BW,st',hs,hr,hq⟩
  simp only[DC,h]at hs
  exact ⟨n,c,BW,st',hs,hr,hq⟩
 ·rintro ⟨n,c,BW,st',hs,hr,hq⟩
  exact ⟨n,c,BW,st',by simpa only[DC,h] using hs,hr,hq⟩
theorem tJ {d:Option Nat} {f:Nat} {xs:List AQ} {g:Option (Nat × Bool)} {ban:List Nat} {l:List AI} {vs:List AV} {r:AV} (h:FF st g=some true) (hv:(xs.map st.ev).mapM (DI (st.own.hide ban) true)=some vs) (hr:Ev L f vs r) :
  AO L (⟨d,.call f xs,g,ban⟩::l) k st Q↔AO L l k (st.dst d r) Q:=by
 have hst : ∀ c r',HL L c f vs=some r'->DB (C5 L c) ⟨d,.call f xs,g,ban⟩ st=some (st.dst d r'):=fun c r' hc=>by
  have hc':(C5 L c).pure f vs=some r':=hc
  simp [DB,h,eff,hv,hc',St.app]
 constructor
 ·rintro ⟨n,c,BW,st',hs,hrn,hq⟩
  simp only[DC]at hs
  cases hI:DB (C5 L c) ⟨d,.call f xs,g,ban⟩ st with
  | none=>simp [hI]at hs
  | some BD =>
   simp only[hI]at hs
   cases hp:HL L c f vs with
   | none =>
    have hc':(C5 L c).pure f vs=none:=hp
    simp [DB,h,eff,hv,hc']at hI
   | some r' =>
    obtain rfl:r'=r:=Ev.det ⟨c,hp⟩ hr
    rw[hst c r' hp]at hI
    obtain rfl:=Option.some.inj hI
    exact ⟨n,c,BW,st',hs,hrn,hq⟩
 ·rintro ⟨n,c,BW,st',hs,hrn,hq⟩
  obtain ⟨c',hc'⟩:=hr
  have l1:=FE (L:=L) (Nat.le_max_left c c')
  have l2:=FE (L:=L) (Nat.le_max_right c c')
  refine ⟨n,max c c',BW,st',?_,MW l1 (Nat.le_refl n) hrn,hq⟩
  simp only[DC]
  rw[hst (max c c') r (l2.1 f vs r hc')]
  exact OW l1 hs
theorem tL {d:Option Nat} {f:Nat} {x:AQ} {xs:List AQ} {g:Option (Nat × Bool)} {ban:List Nat} {l:List AI} {vs:List AV} {r:AV} (h:FF st g=some true) (hx:st.ev x = .fn true f (L.num f) []) (hv:(xs.map st.ev).mapM (DI st.own true)=some vs) (hr:Ev L f vs r) :
  AO L (⟨d,.callv x xs,g,ban⟩::l) k st Q↔AO L l k (st.dst d r) Q:=by
 have hst : ∀ c r',HL L c f vs=some r'->DB (C5 L c) ⟨d,.callv x xs,g,ban⟩ st=some (st.dst d r'):=fun c r' hc=>by
  have hc':(C5 L c).pure f vs=some r':=hc
  simp [DB,h,eff,hx,WA,hv,hc',St.app]
 constructor
 ·rintro ⟨n,c,BW,st',hs,hrn,hq⟩
  simp only[DC]at hs
  cases hI:DB (C5 L c) ⟨d,.callv x xs,g,ban⟩ st with
  | none=>simp [hI]at hs
  | some BD =>
   simp only[hI]at hs
   cases hp:HL L c f vs with
   | none =>
    have hc':(C5 L c).pure f vs=none:=hp
    simp [DB,h,eff,hx,WA,hv,hc']at hI
   | some r' =>
    obtain rfl:r'=r:=Ev.det ⟨c,hp⟩ hr
    rw[hst c r' hp]at hI
    obtain rfl:=Option.some.inj hI
    exact ⟨n,c,BW,st',hs,hrn,hq⟩
 ·rintro ⟨n,c,BW,st',hs,hrn,hq⟩
  obtain ⟨c',hc'⟩:=hr
  have l1:=FE (L:=L) (Nat.le_max_left c c')
  have l2:=FE (L:=L) (Nat.le_max_right c c')
  refine ⟨n,max c c',BW,st',?_,MW l1 (Nat.le_refl n) hrn,hq⟩
  simp only[DC]
  rw[hst (max c c') r (l2.1 f vs r hc')]
  exact OW l1 hs
theorem tM {d:Option Nat} {f:Nat} {xs:List AQ} {g:Option (Nat × Bool)} {ban:List Nat} {l:List AI} {r:AV} (h:FF st g=some true) (hq:(xs.map st.ev).all dq=true) (hr:Ev L f ((xs.map st.ev).map unl) r) (hfl:S5 r) :
  AO L (⟨d,.callq f xs,g,ban⟩::l) k st Q↔AO L l k (st.dst d (lnd r)) Q:=by
 have hst : ∀ c,HL L c f ((xs.map st.ev).map unl)=some r->DB (C5 L c) ⟨d,.callq f xs,g,ban⟩ st=some (st.dst d (lnd r)):=fun c hc=>by
  have hc':(C5 L c).pure f ((xs.map st.ev).map unl)=some r:=hc
  simp only[DB,h,eff]
  rw[if_pos hq,hc']
  simp only[if_pos hfl,Option.map_some,St.app]
 constructor
 ·rintro ⟨n,c,BW,st',hs,hrn,hq'⟩
  simp only[DC]at hs
  cases hp:HL L c f ((xs.map st.ev).map unl) with
  | none =>
   have hc':(C5 L c).pure f ((xs.map st.ev).map unl)=none:=hp
   simp only[DB,h,eff]at hs
   rw[if_pos hq,hc']at hs
   simp at hs
  | some r' =>
   obtain rfl:r'=r:=Ev.det ⟨c,hp⟩ hr
   rw[hst c hp]at hs
   exact ⟨n,c,BW,st',hs,hrn,hq'⟩
 ·rintro ⟨n,c,BW,st',hs,hrn,hq'⟩
  obtain ⟨c',hc'⟩:=hr
  have l1:=FE (L:=L) (Nat.le_max_left c c')
  have l2:=FE (L:=L) (Nat.le_max_right c c')
  refine ⟨n,max c c',BW,st',?_,MW l1 (Nat.le_refl n) hrn,hq'⟩
  simp only[DC]
  rw[hst (max c c') (l2.1 f _ r hc')]
  exact OW l1 hs
theorem tN {d:Option Nat} {s f:Nat} {xs:List AQ} {g:Option (Nat × Bool)} {ban:List Nat} {l:List AI} {vs:List AV} {z:Nat} {es:List (List AV)} (h:FF st g=some true) (hv:(xs.map st.ev).mapM (N3 (st.own.hide ban) true)=some vs) (hr:MZ L f vs z es)
  (ha:AO L l k (st.app d (.new s ⟨z,es⟩ (fun t => .row s t z 0 es.length))) Q):AO L (⟨d,.callr s f xs,g,ban⟩::l) k st Q:=by
 obtain ⟨n,c,BW,st',hs,hrn,hq⟩:=ha
 obtain ⟨c',hc'⟩:=hr
 have l1:=FE (L:=L) (Nat.le_max_left c c')
 have l2:=FE (L:=L) (Nat.le_max_right c c')
 have hc2:NQ ((C5 L (max c c')).inn f vs AH.emp)=some (z,es):=fQ (l2.2.1 f vs AH.emp) hc'
 refine ⟨n,max c c',BW,st',?_,MW l1 (Nat.le_refl n) hrn,hq⟩
 simp only[DC]
 have:DB (C5 L (max c c')) ⟨d,.callr s f xs,g,ban⟩ st=some (st.app d (.new s ⟨z,es⟩ (fun t => .row s t z 0 es.length))):=by
  simp only[DB,h,eff,hv,hc2,Option.map_some]
 rw[this]
 exact OW l1 hs
def eH (L:Lib) (s f:Nat) (vs:List AV) (q:CO) (r:AV) (q':CO):Prop := ∃ n,∀ o:AH,o s=q->DK L n f vs o=some (r,o.put s q')
theorem tP {d:Option Nat} {s f:Nat} {xs:List AQ} {g:Option (Nat × Bool)} {ban:List Nat} {l:List AI} {r:AV} {q':CO} (h:FF st g=some true) (hr:eH L s f (xs.map st.ev) (st.own s) r q')
  (ha:AO L l k (st.app d (.upn s q' r)) Q):AO L (⟨d,.cals s f xs,g,ban⟩::l) k st Q:=by
 obtain ⟨n,c,BW,st',hs,hrn,hq⟩:=ha
 obtain ⟨c',hc'⟩:=hr
 have l1:=FE (L:=L) (Nat.le_max_left c c')
 have l2:=FE (L:=L) (Nat.le_max_right c c')
 have hc2:V7 (C5 L (max c c')) f (xs.map st.ev) s (st.own s)=some (r,q'):=V8.2 fun o ho=>l2.2.1 f _ o _ (hc' o ho)
 refine ⟨n,max c c',BW,st',?_,MW l1 (Nat.le_refl n) hrn,hq⟩
 simp only[DC]
 have:DB (C5 L (max c c')) ⟨d,.cals s f xs,g,ban⟩ st=some (st.app d (.upn s q' r)):=by
  simp only[DB,h,eff,hc2,Option.map_some]
 rw[this]
 exact OW l1 hs
theorem tK {d:Option Nat} {f:Nat} {xs:List AQ} {g:Option (Nat × Bool)} {ban:List Nat} {l:List AI} {r:AV} {o':AH} (h:FF st g=some true) (hr:GC L f (xs.map st.ev) st.own r o') :
  AO L (⟨d,.calli f xs,g,ban⟩::l) k st Q↔AO L l k { (st.dst d r) with own:=o' } Q:=by
 have hst : ∀ c r' o1,DK L c f (xs.map st.ev) st.own=some (r',o1)->DB (C5 L c) ⟨d,.calli f xs,g,ban⟩ st=some { (st.dst d r') with own:=o1 }:=fun c r' o1 hc=>by
  have hc':(C5 L c).inn f (xs.map st.ev) st.own=some (r',o1):=hc
  simp [DB,h,eff,hc',St.app]
 constructor
 ·rintro ⟨n,c,BW,st',hs,hrn,hq⟩
  simp only[DC]at hs
  cases hI:DB (C5 L c) ⟨d,.calli f xs,g,ban⟩ st with
  | none=>simp [hI]at hs
  | some BD =>
   simp only[hI]at hs
   cases hp:DK L c f (xs.map st.ev) st.own with
   | none =>
    have hc':(C5 L c).inn f (xs.map st.ev) st.own=none:=hp
    simp [DB,h,eff,hc']at hI
   | some x =>
    obtain ⟨r',o1⟩:=x
    obtain ⟨rfl,rfl⟩:=GC.det ⟨c,hp⟩ hr
    rw[hst c r' o1 hp]at hI
    obtain rfl:=Option.some.inj hI
    exact ⟨n,c,BW,st',hs,hrn,hq⟩
 ·rintro ⟨n,c,BW,st',hs,hrn,hq⟩
  obtain ⟨c',hc'⟩:=hr
  have l1:=FE (L:=L) (Nat.le_max_left c c')
  have l2:=FE (L:=L) (Nat.le_max_right c c')
  refine ⟨n,max c c',BW,st',?_,MW l1 (Nat.le_refl n) hrn,hq⟩
  simp only[DC]
  rw[hst (max c c') r o' (l2.2.1 f _ _ _ hc')]
  exact OW l1 hs
theorem tO {d:Option Nat} {f:Nat} {cs:List AV} {x:AQ} {xs:List AQ} {g:Option (Nat × Bool)} {ban:List Nat} {l:List AI} {r:AV} {o':AH} (h:FF st g=some true) (hx:st.ev x = .fn false f (L.num f) cs) (hr:GC L f (xs.map st.ev++cs) st.own r o') :
  AO L (⟨d,.callv x xs,g,ban⟩::l) k st Q↔AO L l k { (st.dst d r) with own:=o' } Q:=by
 have hst : ∀ c r' o1,DK L c f (xs.map st.ev++cs) st.own=some (r',o1)->DB (C5 L c) ⟨d,.callv x xs,g,ban⟩ st=some { (st.dst d r') with own:=o1 }:=fun c r' o1 hc=>by
  have hc':(C5 L c).inn f (xs.map st.ev++cs) st.own=some (r',o1):=hc
  simp [DB,h,eff,hx,WA,hc',St.app]
 constructor
 ·rintro ⟨n,c,BW,st',hs,hrn,hq⟩
  simp only[DC]at hs
  cases hI:DB (C5 L c) ⟨d,.callv x xs,g,ban⟩ st with
  | none=>simp [hI]at hs
  | some BD =>
   simp only[hI]at hs
   cases hp:DK L c f (xs.map st.ev++cs) st.own with
   | none =>
    have hc':(C5 L c).inn f (xs.map st.ev++cs) st.own=none:=hp
    simp [DB,h,eff,hx,WA,hc']at hI
   | some x =>
    obtain ⟨r',o1⟩:=x
    obtain ⟨rfl,rfl⟩:=GC.det ⟨c,hp⟩ hr
    rw[hst c r' o1 hp]at hI
    obtain rfl:=Option.some.inj hI
    exact ⟨n,c,BW,st',hs,hrn,hq⟩
 ·rintro ⟨n,c,BW,st',hs,hrn,hq⟩
  obtain ⟨c',hc'⟩:=hr
  have l1:=FE (L:=L) (Nat.le_max_left c c')
  have l2:=FE (L:=L) (Nat.le_max_right c c')
  refine ⟨n,max c c',BW,st',?_,MW l1 (Nat.le_refl n) hrn,hq⟩
  simp only[DC]
  rw[hst (max c c') r o' (l2.2.1 f _ _ _ hc')]
  exact OW l1 hs
theorem sZ {Q':St->Prop} (h:AK L k st Q) (hq : ∀ s,Q s->Q' s):AK L k st Q':=by
 obtain ⟨n,c,st',hr,hh⟩:=h
 exact ⟨n,c,st',hr,hq _ hh⟩
theorem GC.intro {f:Nat} {fn:AFn} {vs:List AV} {o:AH} {r:AV} {o':AH} (hL:L f=some fn) (hp:vs.length=fn.pars) (h:AK L [.code fn.body] ⟨CZ 0 vs,o⟩ (fun st=>(fn.res.mapM (E0 st)).map HP=some r/\st.own=o')):GC L f vs o r o':=by
 obtain ⟨n,c,st',hr,h1,h2⟩:=h
 refine ⟨max n c+1,?_⟩
 rw[TV]
 simp only[hL,hp,if_true]
 rw[MW (FE (L:=L) (Nat.le_max_right n c)) (Nat.le_max_left n c) hr]
 cases hm:fn.res.mapM (E0 st') with
 | none=>rw[hm]at h1;cases h1
 | some rs =>
  rw[hm]at h1
  simp only[Option.map_some,Option.some.injEq]at h1
  simp [hm,h1,h2]
theorem FI.intro {f:Nat} {fn:AFn} {vs:List AV} {r:AV} (hL:L f=some fn) (hp:vs.length=fn.pars) (h:AK L [.code fn.body] ⟨CZ 0 vs,AH.emp⟩ (fun st=>((fn.res.mapM (E0 st)).map HP).bind (PQ st.own false)=some r/\A9 r)):FI L f vs r:=by
 obtain ⟨n,c,st',hr,h1,h2⟩:=h
 cases hm:(fn.res.mapM (E0 st')).map HP with
 | none=>rw[hm]at h1;cases h1
 | some r0 =>
  rw[hm]at h1
  simp only[Option.bind_some]at h1
  obtain ⟨q,hq⟩:=GC.intro (o:=AH.emp) (r:=r0) (o':=st'.own) hL hp ⟨n,c,st',hr,hm,rfl⟩
  refine ⟨q,?_⟩
  unfold H4
  simp [hq,h1,h2]
theorem FI.ev {f:Nat} {fn:AFn} {vs:List AV} {r:AV} (hL:L f=some fn) (h:FI L f vs r) (hs:fn.spl=false:=by rfl):Ev L f vs r:=by
 obtain ⟨n,h⟩:=h
 have hs:L.spl f=false:=by simp only[Lib.spl,hL,hs]
 exact ⟨n,by unfold HL MT;rw[hs];exact h⟩
theorem FI.cons {f:Nat} {q:Bool} {e:List AV} {es:List (List AV)} {vs:List AV} {r:AV} (h:FI L f (.sl q (e::es)::vs) r):Ev L f (.sl q (e::es)::vs) r:=by
 obtain ⟨n,h⟩:=h
 refine ⟨n,?_⟩
 unfold HL MT
 split
 ·rename_i heq;simp at heq
 ·exact h
theorem FI.nil {f:Nat} {fn:AFn} {q:Bool} {vs:List AV} {r:AV} (hL:L f=some fn) (h1:FI L f (.con (.bool true)::vs) r) (h2:FI L f (.con (.bool false)::vs) r) (hs:fn.spl=true:=by rfl):Ev L f (.sl q []::vs) r:=by
 obtain ⟨n,h1⟩:=h1
 obtain ⟨n',h2⟩:=h2
 have hs:L.spl f=true:=by simp only[Lib.spl,hL,hs]
 have k1:=UW (fun vs r h=>(FE (L:=L) (Nat.le_max_left n n')).2.1 f vs AH.emp r h) h1
 have k2:=UW (fun vs r h=>(FE (L:=L) (Nat.le_max_right n n')).2.1 f vs AH.emp r h) h2
 refine ⟨max n n',?_⟩
 unfold HL MT
 rw[hs]
 simp only
 have k1':H4 (fun vs=>DK L (max n n') f vs AH.emp) (.con (.bool true)::vs)=some r:=k1
 have k2':H4 (fun vs=>DK L (max n n') f vs AH.emp) (.con (.bool false)::vs)=some r:=k2
 rw[k1',k2']
 simp
theorem Ev.intro {f:Nat} {fn:AFn} {vs:List AV} {r:AV} (hL:L f=some fn) (hp:vs.length=fn.pars) (h:AK L [.code fn.body] ⟨CZ 0 vs,AH.emp⟩ (fun st=>((fn.res.mapM (E0 st)).map HP).bind (PQ st.own false)=some r/\A9 r)) (hs:fn.spl=false:=by rfl):Ev L f vs r :=
 (FI.intro hL hp h).ev hL hs
end
end Go.Eng

namespace Go.Eng
section
variable {L:Lib} {k:List It} {tm:Tm} {own:AH} {Q:St->Prop} {l:List AI} {ban:List Nat} {d:Nat}
theorem VF (i:Nat) (v:AV) (r:Tm) (j:Nat):tget ((i,v)::r) j=if j=i then v else tget r j:=rfl
theorem AgT (j:Nat):tget [] j = .any:=rfl
theorem AgN (i:Nat) (v:AV) (r:Tm) (l:List Nat):tdrop ((i,v)::r) l=if l.contains i then tdrop r l else (i,v)::tdrop r l:=rfl
theorem AgO (l:List Nat):tdrop [] l=[]:=rfl
theorem Acp (i:Nat) (v:AV) (r:List AV):CZ i (v::r)=(i,v)::CZ (i+1) r:=rfl
end
end Go.Eng

namespace Go.Eng
section
variable {L:Lib} {k:List It} {tm:Tm} {own:AH} {st:St} {Q:St->Prop} {l:List AI} {ban:List Nat} {d:Nat} {dst:Option Nat}
section
variable {x y:AQ} {kd:IntKind} {a b:Int}
end
def TB (fn:AFn) (r:AV) (st:St):Prop:=((fn.res.mapM (E0 st)).map HP).bind (PQ st.own false)=some r/\A9 r
theorem Ev.fwd {f:Nat} {fn:AFn} {vs:List AV} {r:AV} (hL:L f=some fn) (hp:vs.length=fn.pars) (h:AK L [.code fn.body] ⟨CZ 0 vs,AH.emp⟩ (TB fn r)) (hs:fn.spl=false:=by rfl):Ev L f vs r:=Ev.intro hL hp h hs
theorem FI.fwd {f:Nat} {fn:AFn} {vs:List AV} {r:AV} (hL:L f=some fn) (hp:vs.length=fn.pars) (h:AK L [.code fn.body] ⟨CZ 0 vs,AH.emp⟩ (TB fn r)):FI L f vs r:=FI.intro hL hp h
end
attribute [irreducible] TB
end Go.Eng

namespace Go.Eng
def pw (n:Int):Int:=2^n.toNat
theorem AfU (n:Int):1<=pw n:=by
 have:0<pw n:=Int.pow_pos (by decide)
 omega
theorem Agq {k2:IntKind} {a n:Int} (h:0<=n/\n<=63):DG .shr .i64 a k2 n=some (.int .i64 (a/pw n)):=by
 have h2:=AfU n
 have e:(2:Int)^(min n.toNat IntKind.i64.bits)=pw n:=by
  have:min n.toNat IntKind.i64.bits=n.toNat:=by simp only[IntKind.bits];omega
  rw[this];rfl
 simp only[DG]
 rw[if_neg (by omega),e,Int.fdiv_eq_ediv_of_nonneg _ (by omega)]
theorem rV {a m:Int} (hm:0<m):a.tmod m=if 0<=a\/a%m=0 then a%m else a%m-m:=by
 have h:=Int.tmod_eq_emod (a:=a) (b:=m)
 rw[h]
 have hd:m ∣ a↔a%m=0:=Int.dvd_iff_emod_eq_zero
 by_cases h0:0<=a\/a%m=0
 ·rw[if_pos h0,if_pos (by rcases h0 with h0|h0;exact Or.inl h0;exact Or.inr (hd.2 h0))];omega
 ·rw[if_neg h0,if_neg (fun h=>h0 (h.imp id hd.1))]
  have:(m.natAbs:Int)=m:=by omega
  omega
theorem rN {a m:Int} (hm:0<m):a.tdiv m=if 0<=a\/a%m=0 then a/m else a/m+1:=by
 have h:=Int.tdiv_eq_ediv (a:=a) (b:=m)
 rw[h]
 have hd:m ∣ a↔a%m=0:=Int.dvd_iff_emod_eq_zero
 by_cases h0:0<=a\/a%m=0
 ·rw[if_pos h0,if_pos (by rcases h0 with h0|h0;exact Or.inl h0;exact Or.inr (hd.2 h0))];omega
 ·rw[if_neg h0,if_neg (fun h=>h0 (h.imp id hd.1)),Int.sign_eq_one_of_pos hm]
theorem AaA {a m:Int} (hm:1<=m) (h : -9223372036854775808<=a/\a<=9223372036854775807) : -9223372036854775808<=a/m/\a/m<=9223372036854775807:=by
 constructor
 ·rw[Int.le_ediv_iff_mul_le (by omega)]
  have:=Int.mul_le_mul_of_nonpos_left (a := -9223372036854775808) (b:=m) (c:=1) (by omega) hm
  omega
 ·have:a/m<9223372036854775808:=by
   rw[Int.ediv_lt_iff_lt_mul (by omega)]
   have:=Int.mul_le_mul_of_nonneg_left (c:=9223372036854775808) (a:=1) (b:=m) hm (by omega)
   omega
  omega
section
variable {L:Lib} {k:List It} {tm:Tm} {own:AH} {Q:St->Prop} {l:List AI} {ban:List Nat} {d:Nat} {x y:AQ} {a b n p:Int} {k2:IntKind}
end
end Go.Eng

namespace Go.Eng
theorem ST (ts:List Nat) (j:Nat) : ∀ tm:Tm,tget (tdrop tm ts) j=if ts.contains j then .any else tget tm j
 | []=>by simp [AgO,AgT]
 | (i,u)::r=>by
  rw[AgN]
  by_cases h:ts.contains i=true
  ·rw[if_pos h,ST ts j r,VF]
   by_cases h2:j=i
   ·subst h2;rw[if_pos h,if_pos h]
   ·rw[if_neg h2]
  ·rw[if_neg h,VF,VF,ST ts j r]
   by_cases h2:j=i
   ·subst h2;rw[if_pos rfl,if_pos rfl,if_neg h]
   ·rw[if_neg h2,if_neg h2]
def OO (j:Nat):List Nat->Bool
 | []=>false
 | i::r=>bif Nat.beq j i then true else OO j r
abbrev NZ (n:Int):List AV:=[.int .i64 n]
section
variable {L:Lib} {k:List It} {tm:Tm} {own:AH} {Q:St->Prop} {l:List AI} {ban:List Nat} {d:Nat} {x i:AQ} {kd:IntKind} {a:Int} {q:Bool} {α:Type} {es:List α} {enc:α->List AV} {z:Nat}
end
end Go.Eng

namespace Go.Eng
inductive BB where
 | bx (cs:List AV)
 | rw (z:Nat) (es:List (List AV))
 | bs (z:Nat) (es:List (List AV))
 | mx (rows:List (Option (Nat × List (List AV))))
 | hx (i:Nat) (v:AV) (rows:List (Option (Nat × List (List AV))))
 | vw (w:List Nat) (rows:List (Option (Nat × List (List AV))))
abbrev Mem:=List (Nat × Nat × BB)
def mget:Mem->Nat->Option (Nat × BB)
 | [],_=>none
 | (k,s,c)::r,j=>bif Nat.beq j k then some (s,c) else mget r j
def mref (M:Mem) (k t:Nat):Option BB:=match mget M k with
 | none=>none
 | some (_,c)=>match t with
  | 0=>some c
  | i+1=>match c with
   | .mx rows=>match rows[i]? with
    | some (some (z,es))=>some (.rw z es)
    | _=>none
   | .hx _ _ rows=>match rows[i]? with
    | some (some (z,es))=>some (.rw z es)
    | _=>none
   | .vw _ rows=>match rows[i]? with
    | some (some (z,es))=>some (.rw z es)
    | _=>none
   | _=>none
def mdel (j:Nat):Mem->Mem
 | []=>[]
 | (k,s,c)::r=>bif Nat.beq j k then mdel j r else (k,s,c)::mdel j r
def tg:Tm->Nat->AV
 | [],_ => .any
 | (i,v)::r,j=>bif Nat.beq j i then v else tg r j
def bit (m i:Nat):Bool:=Nat.beq (Nat.land (Nat.shiftRight m i) 1) 1
def mask:Nat->List Nat->Nat
 | m,[]=>m
 | m,t::ts=>mask (Nat.lor m (Nat.shiftLeft 1 t)) ts
def cnm (m:Nat):Tm->Tm
 | []=>[]
 | (i,v)::r=>bif bit m i then cnm m r else (i,v)::cnm (Nat.lor m (Nat.shiftLeft 1 i)) r
def fN (n:Nat) (K:Nat->Prop):Prop:=match n with
 | 0=>K 0
 | k+1=>K (k+1)
def dat:AV->Bool
 | .int _ _=>true | .bool _=>true | .con _=>true | .sl _ _=>true | .nil=>true
 | _=>false
def D4:List AV->Bool
 | []=>true
 | v::r=>bif dat v then D4 r else false
def TP:List (List AV)->Bool
 | []=>true
 | v::r=>bif D4 v then TP r else false
def NF (s:Nat):AV->Bool
 | .row k _ _ _ _=>Nat.beq k s | .ptr k _ _ _=>Nat.beq k s
 | _=>false
def IB (s:Nat):List AV->Bool
 | []=>false
 | v::r=>bif NF s v then true else IB s r
def PK (s:Nat):List (List AV)->Bool
 | []=>false
 | v::r=>bif IB s v then true else PK s r
def OT (s:Nat):AV->Bool
 | .agg cs=>IB s cs
 | .fn _ _ _ cs=>IB s cs
 | v=>NF s v
def SN (s:Nat):List AV->Bool
 | []=>false
 | v::r=>bif OT s v then true else SN s r
def NG (s:Nat):AV->Bool
 | .tup vs=>SN s vs
 | v=>OT s v
def HR (s:Nat):Tm->Bool
 | []=>false
 | (_,v)::r=>bif NG s v then true else HR s r
def HQ (s:Nat):BB->Bool
 | .bx cs=>IB s cs
 | .rw _ _=>false
 | .bs _ es=>PK s es
 | .mx _=>false
 | .hx _ _ _=>false
 | .vw _ _=>false
def GK (s:Nat):Mem->Bool
 | []=>false
 | (k,_,c)::r=>bif Nat.beq s k then true else bif HQ s c then true else GK s r
def OE (s:Nat):AV->Bool
 | .row k t _ _ _=>bif Nat.beq k s then (match t with|0=>false|_+1=>true) else false
 | .ptr k t _ _=>bif Nat.beq k s then (match t with|0=>false|_+1=>true) else false
 | _=>false
def NU (s:Nat):List AV->Bool
 | []=>false
 | v::r=>bif OE s v then true else NU s r
def QA (s:Nat):AV->Bool
 | .agg cs=>NU s cs
 | .fn _ _ _ cs=>NU s cs
 | v=>OE s v
def RQ (s:Nat):List AV->Bool
 | []=>false
 | v::r=>bif QA s v then true else RQ s r
def O7 (s:Nat):AV->Bool
 | .tup vs=>RQ s vs
 | v=>QA s v
def I6 (s:Nat):Tm->Bool
 | []=>false
 | (_,v)::r=>bif O7 s v then true else I6 s r
def RR (s:Nat):List (List AV)->Bool
 | []=>false
 | v::r=>bif NU s v then true else RR s r
def NT (s:Nat):BB->Bool
 | .bx cs=>NU s cs
 | .bs _ es=>RR s es
 | _=>false
def HW (s:Nat):Mem->Bool
 | []=>false
 | (_,_,c)::r=>bif NT s c then true else HW s r
def used (k:Nat) (tm:Tm) (M:Mem):Bool:=bif GK k M then true else HR k tm
def XH (tm:Tm) (M:Mem):List Nat->(Nat->Prop)->Prop
 | [],_=>False
 | k::r,K=>bif used k tm M then XH tm M r K else K k
def FP (s:Nat) (tm:Tm) (M:Mem) (K:Nat->Prop):Prop:=XH tm M [s,s+1000000,s+2000000,s+3000000] K
def fL:List AV->(List AV->Prop)->Prop
 | [],K=>K []
 | v::r,K=>fL r fun r'=>K (v::r')
def fV (v:AV) (K:AV->Prop):Prop:=match v with
 | .int k n=>K (.int k n) | .bool b=>K (.bool b) | .sl l es=>K (.sl l es) | .row s t z o n=>K (.row s t z o n)
 | .nil=>K .nil | .ptr s t i j=>K (.ptr s t i j) | .dptr cs=>K (.dptr cs) | .agg cs=>fL cs fun cs=>K (.agg cs)
 | .fn p f g cs=>fL cs fun cs=>K (.fn p f g cs)
 | .tup vs=>fL vs fun vs=>K (.tup vs) | .con c=>K (.con c) | .any=>False
def fC (v:AV) (K:List AV->Prop):Prop:=match v with
 | .agg cs=>fL cs K
 | .fn _ _ _ _=>False
 | .tup _=>False
 | .any=>False
 | v=>fV v fun v=>K [v]
def fB (b:Bool) (K:Bool->Prop):Prop:=match b with
 | true=>K true
 | false=>K false
def fT:Tm->(Tm->Prop)->Prop
 | [],K=>K []
 | (i,v)::r,K=>fT r fun r'=>K ((i,v)::r')
def fM:Mem->(Mem->Prop)->Prop
 | [],K=>K []
 | (k,s,c)::r,K=>fM r fun r'=>K ((k,s,c)::r')
def fF (v:AV) (K:AV->Prop):Prop:=match v with
 | .int k n=>K (.int k n) | .bool b=>K (.bool b) | .sl l es=>K (.sl l es) | .row s t z o n=>K (.row s t z o n)
 | .nil=>K .nil | .ptr s t i j=>K (.ptr s t i j) | .con c=>K (.con c)|_=>False
def f2 (v:AV) (K:AV->Prop):Prop:=match v with
 | .int k n=>K (.int k n) | .bool b=>K (.bool b) | .sl l es=>K (.sl l es) | .row s t z o n=>K (.row s t z o n)
 | .nil=>K .nil | .ptr s t i j=>K (.ptr s t i j) | .con c=>K (.con c) | .agg cs=>fL cs fun cs=>K (.agg cs) | .fn p f g cs=>fL cs fun cs=>K (.fn p f g cs)|_=>False
def ofc (agg:Bool) (ds:List AV) (K:AV->Prop):Prop:=match agg with
 | true=>K (.agg ds)
 | false=>match ds with
  | [c]=>fF c K
  | _=>False
def AF (p q A B:Prop):Prop:=(p->A)/\(q->B)
def AR (p A:Prop):Prop:=p/\A
def AD (op:BinOp) (k:IntKind) (a:Int) (k':IntKind) (b:Int) (K:AV->Prop):Prop := ∃ v,DG op k a k' b=some v/\K v
def B0 (op:UnOp) (k:IntKind) (n:Int) (K:AV->Prop):Prop := ∃ v,PU op (.int k n)=some v/\K v
def AU (k:IntKind) (n:Int) (K:Int->Prop):Prop:=K (k.wrap n)
def AX (es:List (List AV)) (a:Int) (z:Nat) (K:List AV->Prop):Prop:=0<=a /\ ∃ cs,es[a.toNat]? = some cs/\cs.length=z/\K cs
def A8 (es:List (List AV)) (i j n:Nat) (K:List AV->Prop):Prop := ∃ cs ds,es[i]? = some cs/\part cs j n=some ds/\K ds
def A6 (es:List (List AV)) (i j:Nat) (vs:List AV) (K:List (List AV)->Prop):Prop := ∃ cs,es[i]? = some cs/\j+vs.length<=cs.length/\K (es.set i (splice cs j vs))
def BN (a b:Int) (bytes:Nat) (zero:List AV) (K:List (List AV)->Nat->Prop):Prop:=(0<=a/\a<=b/\b*bytes<=EJ/\b<=9223372036854775807)/\K (List.replicate a.toNat zero) a.toNat
def AP (es:List (List AV)) (K:Nat->Prop):Prop:=K es.length
def BK (es:List (List AV)) (len:Nat) (ys:List (List AV)) (z bytes:Nat) (K:List (List AV)->Nat->Prop):Prop :=
 len<=es.length/\(∀ e∈ys,e.length=z)/\(len+ys.length)*bytes<=EJ/\len+ys.length<=9223372036854775807/\K (es.take len++ys) (len+ys.length)
def BV (ys:List (List AV)) (z bytes:Nat) (K:List (List AV)->Nat->Prop):Prop :=
 (∀ e∈ys,e.length=z)/\ys.length*bytes<=EJ/\ys.length<=9223372036854775807/\K ys ys.length
def CN (es:List (List AV)) (off len:Nat) (ys:List (List AV)) (z:Nat) (K:List (List AV)->Nat->Prop):Prop :=
 off+len<=es.length/\(∀ e∈ys,e.length=z)/\K (es.take off++ys.take len++es.drop (off+min ys.length len)) (min ys.length len)
def BI (es:List (List AV)) (off len:Nat) (K:List (List AV)->Prop):Prop:=off+len<=es.length/\K ((es.drop off).take len)
def FK:List AV->Bool
 | []=>true
 | v::r=>match v with
  | .int _ _=>FK r | .bool _=>FK r | .con _=>FK r | .sl _ _=>FK r
  | _=>false
def nl:AV->AV
 | .nil => .sl false []
 | v=>v
def NB:List AV->Bool
 | []=>true
 | v::r=>match v with
  | .int _ _=>NB r | .bool _=>NB r | .con _=>NB r | .sl _ _=>NB r | .nil=>NB r
  | _=>false
def AZ (es:List (List AV)) (off len:Nat) (K:List (List AV)->Prop):Prop:=off+len<=es.length/\(∀ e∈es,NB e=true)/\K (((es.drop off).take len).map fun e=>e.map nl)
def BH (rows:List (Option (Nat × List (List AV)))) (i:Nat) (K:Option (Nat × List (List AV))->Prop):Prop := ∃ r,rows[i]? = some r/\K r
def BF (rows:List (Option (Nat × List (List AV)))) (i:Nat) (K:Nat->List (List AV)->Prop):Prop := ∃ z es,rows[i]? = some (some (z,es))/\K z es
def B9 (rows:List (Option (Nat × List (List AV)))) (i z:Nat) (es:List (List AV)) (K:List (Option (Nat × List (List AV)))->Prop):Prop:=i<rows.length/\K (rows.set i (some (z,es)))
def B8 (rows:List (Option (Nat × List (List AV)))) (i z:Nat) (es es':List (List AV)) (K:List (Option (Nat × List (List AV)))->Prop):Prop:=es'.length=es.length/\K (rows.set i (some (z,es')))
def CI (a b:Int) (bytes:Nat) (K:List (Option (Nat × List (List AV)))->Nat->Prop):Prop:=(0<=a/\a<=b/\b*bytes<=EJ/\b<=9223372036854775807)/\K (List.replicate a.toNat none) a.toNat
def B7 (rows:List (Option (Nat × List (List AV)))) (len:Nat) (r:Option (Nat × List (List AV))) (bytes:Nat) (K:List (Option (Nat × List (List AV)))->Nat->Prop):Prop :=
 len=rows.length/\(len+1)*bytes<=EJ/\len+1<=9223372036854775807/\K (rows++[r]) (len+1)
def PN (q:Bool):List (Option (Nat × List (List AV)))->List (List AV)
 | []=>[]
 | none::r=>[.sl false []]::PN q r
 | some (_,es)::r=>[.sl q es]::PN q r
def CB (q:Bool) (rows:List (Option (Nat × List (List AV)))) (off len:Nat) (K:List (List AV)->Prop):Prop :=
 off=0/\len=rows.length/\(∀ z es,some (z,es)∈rows -> ∀ e∈es,FK e=true)/\K (PN q rows)
def BG (lo hi:Option Int) (len:Nat) (K:Nat->Nat->Prop):Prop :=
 ∃ a h:Nat,(match lo with|none=>a=0|some x=>0<=x/\a=x.toNat)/\(match hi with|none=>h=len|some x=>0<=x/\x<=len/\h=x.toNat)/\a<=h/\K a h
def BQ (z:Nat) (es:List (List AV)) (lo hi:Option Int) (K:List (List AV)->Prop):Prop:=(∀ e∈es,e.length=z)/\BG lo hi es.length fun a h=>K ((es.take h).drop a)
def AB (L:Lib) (f:Nat) (vs:List AV) (K:AV->Prop):Prop := ∃ r,Ev L f vs r/\K r
def tU (n:Nat) (cs ds:List AV) (K:Bool->Prop):Prop := ∃ a b,HM cs=some a/\HM ds=some b/\a.length=n/\b.length=n/\K (decide (a=b))
def WZ:List AV->Bool
 | []=>true
 | .int _ _::r=>WZ r
 | _=>false
def B3 (L:Lib) (f:Nat) (vs:List AV) (K:Nat->List (List AV)->Nat->Prop):Prop := ∃ z es n,MZ L f vs z es/\n=es.length/\K z es n
abbrev FJ:=Nat->Nat->Nat × Nat
def BD (σ:FJ):AV->AV
 | .row k t z o n => .row (σ k t).1 (σ k t).2 z o n
 | .ptr k t i j => .ptr (σ k t).1 (σ k t).2 i j
 | v=>v
def BW (σ:FJ):AV->AV
 | .agg cs => .agg (cs.map (BD σ))
 | .fn p f g cs => .fn p f g (cs.map (BD σ))
 | v=>BD σ v
def BJ (σ:FJ):AV->AV
 | .tup vs => .tup (vs.map (BW σ))
 | v=>BW σ v
def CG (σ:FJ) (k:Nat):Nat->List (Option (Nat × List (List AV)))->List (List AV)
 | _,[]=>[]
 | i,none::r=>[.nil]::CG σ k (i+1) r
 | i,some (z,es)::r=>[.row (σ k (i+1)).1 (σ k (i+1)).2 z 0 es.length]::CG σ k (i+1) r
def BB.blk (σ:FJ) (k:Nat):BB->DN
 | .bx cs=>⟨cs.length,[cs.map (BD σ)]⟩
 | .rw z es=>⟨z,es⟩
 | .bs z es=>⟨z,es.map fun cs=>cs.map (BD σ)⟩
 | .mx rows=>⟨1,CG σ k 0 rows⟩
 | .hx i v rows=>⟨1,(CG σ k 0 rows).set i [v]⟩
 | .vw w rows=>⟨1,w.map fun t=>((CG σ k 0 rows)[t]?).getD []⟩
def BB.isRow:BB->Bool
 | .bx _=>false
 | _=>true
def EO (s:Nat):Bool:=Nat.blt s 900000
structure MJ (σ:FJ) (own:AH) (M:Mem):Prop where
 site : ∀ k s c,mget M k=some (s,c)->(σ k 0).1=s
 blk : ∀ k t c,mref M k t=some c->(own (σ k t).1).blk (σ k t).2=some (c.blk σ k)
 old : ∀ k t c,mref M k t=some c->(σ k t).2<(own (σ k t).1).cnt
 inj : ∀ k t k' t' c c',mref M k t=some c->mref M k' t'=some c'->σ k t=σ k' t'->k=k'/\t=t'
 low : ∀ k t c,mref M k t=some c->c.isRow=true->EO (σ k t).1=true
structure RX (σ:FJ) (tm:Tm) (M:Mem) (st:St):Prop where
 tm : ∀ j,tg tm j = .any\/tget st.tm j=BJ σ (tg tm j)
 sat:MJ σ st.own M
def SQ (Q:Tm->Mem->Prop) (st:St):Prop := ∃ σ tm M,RX σ tm M st/\Q tm M
def AA (L:Lib) (k:List It) (tm:Tm) (M:Mem) (Q:Tm->Mem->Prop):Prop := ∀ σ st,RX σ tm M st->AK L k st (SQ Q)
def eC (L:Lib) (l:List AI) (k:List It) (tm:Tm) (M:Mem) (Q:Tm->Mem->Prop):Prop := ∀ σ st,RX σ tm M st->AO L l k st (SQ Q)
def A7 (L:Lib) (f:Nat) (vs:List AV) (tm:Tm) (M:Mem) (K:AV->Mem->Prop):Prop :=
 ∀ σ own,MJ σ own M -> ∃ r own' σ' M',GC L f (vs.map (BJ σ)) own (BJ σ' r) own'/\MJ σ' own' M'/\(∀ j,BJ σ' (tg tm j)=BJ σ (tg tm j))/\K r M'
def tZ (L:Lib) (s f key:Nat) (rest:List AV) (M:Mem) (K:AV->Mem->Prop):Prop :=
 ∃ (cells cells':List AV) (kd:IntKind) (n:Int),mget M key=some (s,.bx cells)/\D4 cells=true/\D4 cells'=true/\(∀ (t:Nat) (q:CO),q.blk t=some ⟨cells.length,[cells]⟩->eH L s f (.ptr s t 0 0::rest) q (.int kd n) (q.upd t (some ⟨cells'.length,[cells']⟩)))/\K (.int kd n) ((key,s,.bx cells')::M)
def cv:AV->AV
 | .agg cs=>bif D4 cs then .agg cs else .any
 | .tup [] => .tup []
 | .dptr _ => .any
 | v=>bif dat v then v else .any
def ex (tm:Tm):AQ->AV
 | .t n=>tg tm n
 | .c v=>cv v
def kq (k k':IntKind):Bool:=decide (k=k')
def YW (op:BinOp) (k:IntKind) (a:Int) (k':IntKind) (b:Int) (K:AV->Prop):Prop:=match op with
 | .lss=>bif kq k k' then AF (a<b) (b<=a) (K (.bool true)) (K (.bool false)) else False
 | .leq=>bif kq k k' then AF (a<=b) (b<a) (K (.bool true)) (K (.bool false)) else False
 | .gtr=>bif kq k k' then AF (b<a) (a<=b) (K (.bool true)) (K (.bool false)) else False
 | .geq=>bif kq k k' then AF (b<=a) (a<b) (K (.bool true)) (K (.bool false)) else False
 | .eql=>bif kq k k' then AF (a=b) (a≠b) (K (.bool true)) (K (.bool false)) else False
 | .neq=>bif kq k k' then AF (a≠b) (a=b) (K (.bool true)) (K (.bool false)) else False
 | op=>AD op k a k' b K
noncomputable def QQ (mx:Bool) (k:IntKind) (K:AV->Prop) (a:Int) (l:List AV):Prop :=
 List.rec (motive:=fun _=>Int->Prop) (fun a=>K (.int k a)) (fun v _ ih a=>match v with
  | .int _ b=>bif mx then AF (a<b) (b<=a) (ih b) (ih a) else AF (b<a) (a<=b) (ih b) (ih a)
  | _=>False) l a
def lget:List AV->Nat->AV
 | [],_ => .any
 | v::_,0=>v
 | _::r,n+1=>lget r n
def PI (s:Nat):List Nat->Bool
 | []=>true
 | ban => !(OO s ban)
def QT:List Nat->Bool
 | []=>true
 | s::r=>bif EO s then false else QT r
def cW (M:Mem) (k t:Nat) (K:Nat->List (List AV)->Prop):Prop:=match mget M k with
 | some (_,c)=>match t with
  | 0=>match c with
   | .rw z es=>K z es
   | _=>False
  | i+1=>match c with
   | .mx rows=>BF rows i K
   | _=>False
 | none=>False
def TT (M:Mem) (v:AV) (K:List (List AV)->Prop):Prop:=match v with
 | .sl _ es=>K es
 | .nil=>K []
 | .con (.bool _)=>K []
 | .row key t z off len=>cW M key t fun z' es=>bif Nat.beq z z' then BI es off len K else False
 | _=>False
def Q7 (q:Bool) (M:Mem) (ban:List Nat) (v:AV) (K:AV->Prop):Prop:=match v with
 | .int k n=>K (.int k n)
 | .bool b=>K (.bool b)
 | .sl l es=>K (.sl l es)
 | .con c=>K (.con c)
 | .nil=>K (.sl false [])
 | .row key t z off len=>match mget M key with
  | some (s,.rw z' es)=>match t with
   | 0=>bif Nat.beq z z' then bif PI s ban then AZ es off len fun es=>K (.sl q es) else False else False
   | _+1=>False
  | some (_,.mx rows)=>match t with
   | 0=>False
   | i+1=>match ban with
    | []=>BF rows i fun z' es=>bif Nat.beq z z' then AZ es off len fun es=>K (.sl q es) else False
    | b::r=>bif QT (b::r) then BF rows i fun z' es=>bif Nat.beq z z' then AZ es off len fun es=>K (.sl q es) else False else False
  | _=>False
 | _=>False
noncomputable def XW (q:Bool) (M:Mem) (ban:List Nat) (l:List AV):(List AV->Prop)->Prop :=
 List.rec (motive:=fun _=>(List AV->Prop)->Prop) (fun K=>K []) (fun v _ ih K=>Q7 q M ban v fun v'=>ih fun r'=>K (v'::r')) l
noncomputable def dF (q:Bool) (M:Mem) (ban:List Nat) (l:List (List AV)):(List (List AV)->Prop)->Prop :=
 List.rec (motive:=fun _=>(List (List AV)->Prop)->Prop) (fun K=>K []) (fun v _ ih K=>XW q M ban v fun v'=>ih fun r'=>K (v'::r')) l
noncomputable def U4 (q:Bool) (M:Mem) (ban:List Nat) (v:AV) (K:AV->Prop):Prop:=match v with
 | .row key 0 z off len=>match mget M key with
  | some (s,.bs z' es)=>bif Nat.beq z z' then bif PI s ban then bif Nat.beq off 0 then AR (len=es.length) (dF q M ban es fun es=>K (.sl q es)) else False else False else False
  | some (_,.mx rows)=>match ban with
   | []=>bif Nat.beq z 1 then CB q rows off len fun es=>K (.sl q es) else False
   | _::_=>False
  | _=>Q7 q M ban (.row key 0 z off len) K
 | v=>Q7 q M ban v K
noncomputable def dG (q:Bool) (M:Mem) (ban:List Nat) (l:List AV):(List AV->Prop)->Prop :=
 List.rec (motive:=fun _=>(List AV->Prop)->Prop) (fun K=>K []) (fun v _ ih K=>U4 q M ban v fun v'=>ih fun r'=>K (v'::r')) l
noncomputable def PP (q:Bool) (M:Mem) (ban:List Nat) (v:AV) (K:AV->Prop):Prop:=match v with
 | .agg cs=>dG q M ban cs fun cs=>K (.agg cs)
 | v=>U4 q M ban v K
noncomputable def XY (tm:Tm) (M:Mem) (ban:List Nat) (l:List AQ):(List AV->Prop)->Prop :=
 List.rec (motive:=fun _=>(List AV->Prop)->Prop) (fun K=>K []) (fun x _ ih K=>PP true M ban (ex tm x) fun v=>ih fun vs=>K (v::vs)) l
noncomputable def XX (M:Mem) (ban:List Nat) (v:AV) (K:AV->Prop):Prop:=match v with
 | .nil=>K .nil
 | v=>PP true M ban v K
noncomputable def dH (tm:Tm) (M:Mem) (ban:List Nat) (l:List AQ):(List AV->Prop)->Prop :=
 List.rec (motive:=fun _=>(List AV->Prop)->Prop) (fun K=>K []) (fun x _ ih K=>XX M ban (ex tm x) fun v=>ih fun vs=>K (v::vs)) l
noncomputable def R5 (tm:Tm) (l:List AQ):(List AV->Prop)->Prop :=
 List.rec (motive:=fun _=>(List AV->Prop)->Prop) (fun K=>K []) (fun x _ ih K=>fV (ex tm x) fun v=>ih fun vs=>K (v::vs)) l
def XC (tm:Tm) (o:Option AQ) (K:Option Int->Prop):Prop:=match o with
 | none=>K none
 | some x=>match ex tm x with
  | .int _ n=>K (some n)
  | _=>False
def bH (es:List (List AV)) (K:Nat->Prop):Prop:=match es with
 | []=>K 0
 | [_]=>K 1
 | [_,_]=>K 2
 | [_,_,_]=>K 3
 | [_,_,_,_]=>K 4
 | es=>K es.length
noncomputable def YZ (tm:Tm) (z:Nat) (l:List AQ):(List (List AV)->Prop)->Prop :=
 List.rec (motive:=fun _=>(List (List AV)->Prop)->Prop) (fun K=>K []) (fun x _ ih K=>fC (ex tm x) fun cs=>bif Nat.beq cs.length z then ih fun es=>K (cs::es) else False) l
noncomputable def aF (tm:Tm) (ps:List (Nat × Nat × AQ)):List AV->(List AV->Prop)->Prop :=
 List.rec (motive:=fun _=>List AV->(List AV->Prop)->Prop) (fun cells K=>K cells) (fun p _ ih cells K=>fC (ex tm p.2.2) fun vs=>bif Nat.beq vs.length p.2.1 then bif Nat.ble (p.1+p.2.1) cells.length then fL (splice cells p.1 vs) fun cells=>ih cells K else False else False) ps
def PC (tm:Tm):List AQ->List AV
 | []=>[]
 | x::r=>ex tm x::PC tm r
def P3 (tb:List Nat) (n:Int) (K:Nat->Prop):Prop:=0<=n /\ ∃ v,tb[n.toNat]? = some v/\K v
noncomputable def bZ (tm:Tm) (l:List AQ):(List AV->Prop)->Prop :=
 List.rec (motive:=fun _=>(List AV->Prop)->Prop) (fun K=>K []) (fun x _ ih K=>fF (ex tm x) fun v=>ih fun cs=>K (v::cs)) l
def cE:AV->Bool
 | .agg _=>false | .fn _ _ _ _=>false | .tup _=>false | .any=>false
 | _=>true
def UR:List AV->Bool
 | []=>true
 | v::r=>bif cE v then UR r else false
def P7 (M:Mem) (v:AV):Option (Nat × Option (Nat × Nat × Nat)):=match v with
 | .row ky 0 1 0 1=>match mget M ky with
  | some (_,.bs 1 [[.row k2 0 z 0 n]])=>some (ky,some (k2,z,n))
  | some (_,.rw 1 [[.nil]])=>some (ky,none)
  | _=>none
 | _=>none
def dO (tm:Tm) (M:Mem) (K:AV->Mem->Prop) (n:Nat) (x v:AQ):Prop:=match ex tm x with
 | .ptr key t i j=>fC (ex tm v) fun vs=>bif Nat.beq vs.length n then (match mget M key with
  | some (s,c)=>match t with
   | 0=>match c with
    | .bx cs=>bif Nat.beq i 0 then bif Nat.ble (j+vs.length) cs.length then fL (splice cs j vs) fun cs'=>K (.tup []) ((key,s,.bx cs')::M) else False else False
    | .rw z es=>bif D4 vs then A6 es i j vs fun es'=>K (.tup []) ((key,s,.rw z es')::M) else False
    | .bs _ _=>False
    | .mx rows=>match vs with
     | [.row key2 0 z 0 m]=>bif Nat.beq key key2 then False else bif I6 key tm then False else bif HW key M then False else bif Nat.beq j 0 then (match mget M key2 with
      | some (_,.rw z' es)=>bif Nat.beq z z' then fM (mdel key2 M) fun M'=>AR (m=es.length) (B9 rows i z es fun rows'=>K (.tup []) ((key,s,.mx rows')::M')) else False
      | _=>False) else False
     | [.row key2 (t2+1) z 0 m]=>bif Nat.beq key key2 then bif Nat.beq j 0 then BF rows t2 fun z' es=>bif Nat.beq z z' then AR (m=es.length/\i<rows.length) (K (.tup []) ((key,s,.vw ((List.range rows.length).set i t2) rows)::M)) else False else False else False
     | _=>False
    | .hx i0 _ rows=>match vs with
     | [.row key2 0 z 0 m]=>bif Nat.beq key key2 then False else bif I6 key tm then False else bif HW key M then False else bif Nat.beq j 0 then (match mget M key2 with
      | some (_,.rw z' es)=>bif Nat.beq z z' then fM (mdel key2 M) fun M'=>AR (i=i0/\m=es.length) (B9 rows i z es fun rows'=>K (.tup []) ((key,s,.mx rows')::M')) else False
      | _=>False) else False
     | _=>False
    | .vw w rows=>match vs with
     | [.row key2 (t2+1) z 0 m]=>bif Nat.beq key key2 then bif Nat.beq j 0 then BF rows t2 fun z' es=>bif Nat.beq z z' then AR (m=es.length/\i<w.length /\ ∀ t∈w,t<rows.length) (K (.tup []) ((key,s,.vw (w.set i t2) rows)::M)) else False else False else False
     | _=>False
   | i'+1=>match c with
    | .mx rows=>bif D4 vs then BF rows i' fun z es=>A6 es i j vs fun es'=>B8 rows i' z es es' fun rows'=>K (.tup []) ((key,s,.mx rows')::M) else False
    | _=>False
  | none=>False) else False
 | _=>False
def BM (r:AV) (K:AV->Prop):Prop:=S5 r/\K (lnd r)
noncomputable def XE (L:Lib) (tm:Tm) (M:Mem) (ban:List Nat) (K:AV->Mem->Prop):D7->Prop
 | .mov x=>fV (ex tm x) fun v=>K v M
 | .vrow s z=>bif EO s then FP s tm M fun k=>K (.row k 0 z 0 0) ((k,s,.rw z [])::M) else False
 | .pick c a b=>match ex tm c with
  | .bool true=>fV (ex tm a) fun v=>K v M
  | .bool false=>fV (ex tm b) fun v=>K v M
  | _=>False
 | .bin op x y=>match ex tm x,ex tm y with
  | .int k a,.int k' b=>YW op k a k' b fun v=>K v M
  | _,_=>False
 | .aeq ne n x y=>match ex tm x,ex tm y with
  | .agg cs,.agg ds=>tU n cs ds fun b=>fB (bif ne then !b else b) fun c=>K (.bool c) M
  | _,_=>False
 | .beq ne x y=>match ex tm x,ex tm y with
  | .bool a,.bool b=>fB (bif ne then !(a == b) else a == b) fun c=>K (.bool c) M
  | _,_=>False
 | .un op x=>match ex tm x with
  | .int k n=>B0 op k n fun v=>K v M
  | .bool b=>match op with
   | .not=>fB (!b) fun c=>K (.bool c) M
   | _=>False
  | _=>False
 | .conv k x=>match ex tm x with
  | .int _ n=>AU k n fun v=>K (.int k v) M
  | _=>False
 | .box s x=>fC (ex tm x) fun cs=>FP s tm M fun k=>K (.ptr k 0 0 0) ((k,s,.bx cs)::M)
 | .alloc s zero=>bif D4 zero then (FP s tm M fun k=>K (.ptr k 0 0 0) ((k,s,.bx zero)::M)) else False
 | .build zero parts=>bif D4 zero then aF tm parts zero fun cs=>K (.agg cs) M else False
 | .bslice s z parts=>bif EO s then YZ tm z parts fun es=>bH es fun n=>FP s tm M fun k=>bif TP es then K (.row k 0 z 0 n) ((k,s,.rw z es)::M) else K (.row k 0 z 0 n) ((k,s,.bs z es)::M) else False
 | .fadr x off=>match ex tm x with
  | .ptr key t i j=>K (.ptr key t i (j+off)) M
  | .dptr cs=>fL (cs.drop off) fun cs=>K (.dptr cs) M
  | _=>False
 | .fld x off n agg=>match ex tm x with
  | .agg cs=>match part cs off n with
   | some ds=>fL ds fun ds=>ofc agg ds fun v=>K v M
   | none=>False
  | _=>False
 | .iadr arr z x i=>match ex tm i with
  | .int _ n=>match arr,ex tm x with
   | some len,.ptr key t i' j=>AR (0<=n/\n<(len:Int)) (K (.ptr key t i' (j+n.toNat*z)) M)
   | some len,.dptr cs=>AR (0<=n/\n<(len:Int)) (fL (cs.drop (n.toNat*z)) fun cs=>K (.dptr cs) M)
   | none,.row key t z' off len=>bif Nat.beq z' z then AR (0<=n/\n<(len:Int)) (K (.ptr key t (off+n.toNat) 0) M) else False
   | none,.sl _ es=>AX es n z fun cs=>K (.dptr cs) M
   | _,_=>False
  | _=>False
 | .idx len z agg x i=>match ex tm i,ex tm x with
  | .int _ n,.agg cs=>AR (0<=n/\n<(len:Int)) (match part cs (n.toNat*z) z with
   | some ds=>fL ds fun ds=>ofc agg ds fun v=>K v M
   | none=>False)
  | _,_=>False
 | .ld agg n x=>match ex tm x with
  | .ptr key t i j=>match mget M key with
   | some (s,c)=>match t with
    | 0=>bif PI s ban then (match c with
     | .bx cs=>bif Nat.beq i 0 then (match part cs j n with
      | some ds=>fL ds fun ds=>ofc agg ds fun v=>K v M
      | none=>False) else False
     | .rw _ es=>A8 es i j n fun ds=>fL ds fun ds=>bif D4 ds then ofc agg ds fun v=>K v M else False
     | .bs _ es=>(match es[i]? with
      | some cs=>(match part cs j n with
       | some ds=>fL ds fun ds=>ofc agg ds fun v=>K v M
       | none=>False)
      | none=>False)
     | .mx rows=>bif Nat.beq j 0 then bif Nat.beq n 1 then BH rows i fun r=>match r with
      | some (z,es)=>ofc agg [.row key (i+1) z 0 es.length] fun v=>K v M
      | none=>ofc agg [.nil] fun v=>K v M else False else False
     | .hx _ _ _=>False
     | .vw _ _=>False) else False
    | i'+1=>match c,ban with
     | .mx rows,[]=>BF rows i' fun _ es=>A8 es i j n fun ds=>fL ds fun ds=>bif D4 ds then ofc agg ds fun v=>K v M else False
     | .mx rows,b::r=>bif QT (b::r) then BF rows i' fun _ es=>A8 es i j n fun ds=>fL ds fun ds=>bif D4 ds then ofc agg ds fun v=>K v M else False else False
     | _,_=>False
   | none=>False
  | .dptr cs=>match part cs 0 n with
   | some ds=>fL ds fun ds=>bif D4 ds then ofc agg ds fun v=>K v M else False
   | none=>False
  | _=>False
 | .st n x v=>dO tm M K n x v
 | .sto s n x v=>match ex tm x with
  | .ptr key 0 _ _=>(match mget M key with
   | some (s',_)=>bif Nat.beq s' s then dO tm M K n x v else False
   | none=>False)
  | _=>False
 | .callq f xs=>R5 tm xs fun vs=>bif vs.all dq then AB L f (vs.map unl) fun r=>BM r fun r=>K r M else False
 | .mk s z bytes zero l c=>match ex tm l,ex tm c with
  | .int _ a,.int _ b=>bif Nat.beq zero.length z then bif D4 zero then match zero with
   | [.nil]=>bif EO s then CI a b bytes fun rows n=>FP s tm M fun k=>K (.row k 0 z 0 n) ((k,s,.mx rows)::M) else False
   | zero=>bif EO s then (BN a b bytes zero fun es n=>FP s tm M fun k=>K (.row k 0 z 0 n) ((k,s,.rw z es)::M)) else False else False else False
  | _,_=>False
 | .slc z x lo hi=>XC tm lo fun lo=>XC tm hi fun hi=>match ex tm x with
  | .sl l es=>BQ z es lo hi fun es=>K (.sl l es) M
  | .row key t z' off len=>bif Nat.beq z' z then BG lo hi len fun a h=>K (.row key t z (off+a) (h-a)) M else False
  | .nil=>(match lo,hi with
   | none,none=>K .nil M
   | some a,none=>AR (a=0) (K .nil M)
   | none,some h=>AR (h=0) (K .nil M)
   | some a,some h=>AR (a=0/\h=0) (K .nil M))
  | _=>False
 | .ext x i=>match ex tm x with
  | .tup vs=>f2 (lget vs i) fun v=>K v M
  | _=>False
 | .len x=>match ex tm x with
  | .sl _ es=>AP es fun n=>K (.int .i64 (n:Int)) M
  | .nil=>K (.int .i64 0) M
  | .row _ _ _ _ n=>K (.int .i64 (n:Int)) M
  | _=>False
 | .mm mx xs=>match PC tm xs with
  | .int k a::r=>QQ mx k (fun v=>K v M) a r
  | _=>False
 | .app s z bytes x y=>match P7 M (ex tm y) with
  | some (ky,some (k2,z2,n2))=>match ex tm x with
   | .row key 0 z' off len=>bif Nat.beq off 0 then bif Nat.beq z' 1 then bif Nat.beq z 1 then bif Nat.beq key k2 then False else bif Nat.beq key ky then False else bif Nat.beq k2 ky then False else (match mget M k2 with
    | some (_,.rw z3 es)=>bif Nat.beq z2 z3 then (match mget M key with
     | some (s',.mx rows)=>fM (mdel key (mdel k2 (mdel ky M))) fun M'=>AR (n2=es.length) (B7 rows len (some (z2,es)) bytes fun rows' n=>FP s tm M fun k=>K (.row k 0 z 0 n) ((k,s',.mx rows')::M'))
     | _=>False) else False
    | _=>False) else False else False else False
   | .nil=>bif EO s then bif Nat.beq z 1 then (match mget M k2 with
    | some (_,.rw z3 es)=>bif Nat.beq z2 z3 then fM (mdel k2 M) fun M'=>AR (n2=es.length/\bytes<=140737488355328) (FP s tm M fun k=>K (.row k 0 z 0 1) ((k,s,.mx [some (z2,es)])::M')) else False
    | _=>False) else False else False
   | _=>False
  | some (ky,none)=>match ex tm x with
   | .row key 0 z' off len=>bif Nat.beq off 0 then bif Nat.beq z' 1 then bif Nat.beq z 1 then bif Nat.beq key ky then False else (match mget M key with
     | some (s',.mx rows)=>fM (mdel key M) fun M'=>B7 rows len none bytes fun rows' n=>FP s tm M fun k=>K (.row k 0 z 0 n) ((k,s',.mx rows')::M')
     | _=>False) else False else False else False
   | .nil=>bif EO s then bif Nat.beq z 1 then AR (bytes<=140737488355328) (FP s tm M fun k=>K (.row k 0 z 0 1) ((k,s,.mx [none])::M)) else False else False
   | _=>False
  | none=>TT M (ex tm y) fun ys=>match ex tm x with
   | .row key 0 z' off len=>bif Nat.beq off 0 then bif Nat.beq z' z then (match mget M key with
    | some (s',.rw z'' es)=>bif Nat.beq z'' z then fM (mdel key M) fun M'=>(BK es len ys z bytes fun es' n=>FP s tm M fun k=>K (.row k 0 z 0 n) ((k,s',.rw z es')::M')) else False
    | _=>False) else False else False
   | .row key (i+1) z' off len=>bif Nat.beq off 0 then bif Nat.beq z' z then (match mget M key with
    | some (sk,.mx rows)=>fM (mdel key M) fun M'=>BF rows i fun z'' es=>bif Nat.beq z'' z then (BK es len ys z bytes fun es' n => ∀ s' v,FP s tm M fun k=>K (.row k 0 z 0 n) ((k,s',.rw z es')::(key,sk,.hx i v (rows.set i none))::M')) else False
    | _=>False) else False else False
   | .nil=>bif EO s then BV ys z bytes fun es n=>FP s tm M fun k=>K (.row k 0 z 0 n) ((k,s,.rw z es)::M) else False
   | _=>False
 | .appo s z bytes x y=>match ex tm y with
  | .sl _ ys=>match ex tm x with
   | .row key 0 z' off len=>bif Nat.beq off 0 then bif Nat.beq z' z then (match mget M key with
    | some (s',.rw z'' es)=>bif Nat.beq s' s then bif Nat.beq z'' z then fM (mdel key M) fun M'=>(BK es len ys z bytes fun es' n=>FP s tm M fun k=>K (.row k 0 z 0 n) ((k,s',.rw z es')::M')) else False else False
    | _=>False) else False else False
   | _=>False
  | _=>False
 | .cpy z x y=>TT M (ex tm y) fun ys=>match ex tm x with
  | .row key 0 z' off len=>bif Nat.beq z' z then (match mget M key with
   | some (s',.rw z'' es)=>bif Nat.beq z'' z then CN es off len ys z fun es' n=>K (.int .i64 (n:Int)) ((key,s',.rw z es')::M) else False
   | _=>False) else False
  | _=>False
 | .call f xs=>XY tm M ban xs fun vs=>AB L f vs fun r=>K r M
 | .calli f xs=>R5 tm xs fun vs=>A7 L f vs tm M K
 | .callr s f xs=>bif EO s then dH tm M ban xs fun vs=>B3 L f vs fun z es n=>FP s tm M fun k=>K (.row k 0 z 0 n) ((k,s,.rw z es)::M) else False
 | .isn ne x=>match ex tm x with
  | .nil=>fB (xor true ne) fun c=>K (.bool c) M
  | .con (.bool b)=>fB (xor b ne) fun c=>K (.bool c) M
  | .sl _ es=>AR (es≠[]) (fB (xor false ne) fun c=>K (.bool c) M)
  | .row _ _ _ _ n=>AR (0<n) (fB (xor false ne) fun c=>K (.bool c) M)
  | _=>False
 | .bad=>False
 | .nck x=>match ex tm x with
  | .ptr key t i j=>K (.ptr key t i j) M
  | _=>False
 | .capn x=>match ex tm x with
  | .nil=>K (.int .i64 0) M
  | _=>False
 | .apz s z bytes x y=>match ex tm x,ex tm y with
  | .nil,.int _ n=>bif EO s then AR (0<n/\n*bytes<=EJ/\n<=9223372036854775807) (FP s tm M fun k=>K (.row k 0 z 0 n.toNat) ((k,s,.rw z [])::M)) else False
  | _,_=>False
 | .cals s f xs=>R5 tm xs fun vs=>match vs with
  | .ptr key 0 0 0::rest=>bif WZ rest then tZ L s f key rest M K else False
  | _=>False
 | .apd s z bytes x y=>match ex tm x,ex tm y with
  | .nil,.sl _ ys=>bif EO s then BV ys z bytes fun es n=>AR (0<n) (FP s tm M fun k=>K (.row k 0 z 0 n) ((k,s,.rw z es)::M)) else False
  | _,_=>False
 | .sidx tb x=>match ex tm x with
  | .int _ n=>P3 tb n fun v=>K (.int .u8 v) M
  | _=>False
 | .mkf p f xs=>bZ tm xs fun cs=>K (.fn p f (L.num f) cs) M
 | .callv x xs=>match ex tm x with
  | .fn true f g []=>AR (g=L.num f) (XY tm M [] xs fun vs=>AB L f vs fun r=>K r M)
  | .fn false f g cs=>bif UR cs then AR (g=L.num f) (R5 tm xs fun vs=>fL (vs++cs) fun vs=>A7 L f vs tm M K) else False
  | _=>False
def tcl (key:Nat):Tm->Tm
 | []=>[]
 | (j,v)::r=>bif O7 key v then (j,.any)::tcl key r else (j,v)::tcl key r
def xk (v:AV) (tm:Tm) (K:Tm->Prop):Prop:=match v with
 | .row key (_+1) _ _ _=>fT (tcl key tm) K
 | _=>K tm
noncomputable def XI (L:Lib) (o:AI) (ih:(Tm->Mem->Prop)->Tm->Mem->Prop) (K:Tm->Mem->Prop) (tm:Tm) (M:Mem):Prop:=match o with
 | ⟨some d,.app s z b x y,none,ban⟩=>XE L tm M ban (fun v M=>xk (ex tm x) tm fun tm=>ih K ((d,v)::tm) M) (.app s z b x y)
 | ⟨some d,op,none,ban⟩=>XE L tm M ban (fun v M=>ih K ((d,v)::tm) M) op
 | ⟨none,op,none,ban⟩=>XE L tm M ban (fun _ M=>ih K tm M) op
 | ⟨dst,op,some (g,w),ban⟩=>match tg tm g with
  | .bool b=>fB (b == w) fun c=>match c,dst with
   | true,some d=>XE L tm M ban (fun v M=>ih K ((d,v)::tm) M) op
   | true,none=>XE L tm M ban (fun _ M=>ih K tm M) op
   | false,some d=>ih K ((d,.tup [])::tm) M
   | false,none=>ih K tm M
  | .tup []=>match dst with
   | some d=>ih K ((d,.tup [])::tm) M
   | none=>ih K tm M
  | _=>False
noncomputable def XO (L:Lib) (l:List AI):(Tm->Mem->Prop)->Tm->Mem->Prop :=
 List.rec (motive:=fun _=>(Tm->Mem->Prop)->Tm->Mem->Prop) (fun K tm M=>K tm M) (fun o _ ih K tm M=>XI L o ih K tm M) l
noncomputable def XS (L:Lib) (Q:Tm->Mem->Prop) (ih:List It->Tm->Mem->Prop) (k:List It) (tm:Tm) (M:Mem):Prop:=match k with
 | []=>Q tm M
 | it::k=>match it with
  | .blk _=>ih k tm M
  | .drp ts ss=>fN (mask 0 ts) fun m=>fT (cnm m tm) fun tm=>match ss with
   | []=>ih k tm M
   | _::_=>False
  | .lp c=>AA L (.lp c::k) tm M Q
  | .code c=>match c with
   | .skip=>ih k tm M
   | .ops l _=>XO L l (fun tm M=>ih k tm M) tm M
   | .dr c ts ss=>ih (.code c :: .drp ts ss::k) tm M
   | .scope c=>ih (.code c::k) tm M
   | .seq a b=>ih (.code a :: .code b::k) tm M
   | .cond x a b=>match ex tm x with
    | .bool b'=>fB b' fun c=>match c with
     | true=>ih (.code a::k) tm M
     | false=>ih (.code b::k) tm M
    | _=>False
   | .block id c=>ih (.code c :: .blk id::k) tm M
   | .loop c=>AA L (.lp c::k) tm M Q
   | .exit id=>match DP id k with
    | some k'=>ih k' tm M
    | none=>False
   | .ret=>Q tm M
noncomputable def XK (L:Lib) (Q:Tm->Mem->Prop) (n:Nat):List It->Tm->Mem->Prop :=
 Nat.rec (motive:=fun _=>List It->Tm->Mem->Prop) (fun k tm M=>AA L k tm M Q) (fun _ ih k tm M=>XS L Q ih k tm M) n
def U0 (tm:Tm) (M:Mem) (r:I4) (K:AV->Prop):Prop:=match r with
 | .tmp t=>f2 (tg tm t) K
 | .cell t agg n=>match tg tm t with
  | .ptr key 0 i j=>match mget M key with
   | some (_,.bx cs)=>bif Nat.beq i 0 then (match part cs j n with
    | some ds=>fL ds fun ds=>ofc agg ds K
    | none=>False) else False
   | _=>False
  | _=>False
noncomputable def XL (tm:Tm) (M:Mem) (l:List I4):(List AV->Prop)->Prop :=
 List.rec (motive:=fun _=>(List AV->Prop)->Prop) (fun K=>K []) (fun x _ ih K=>U0 tm M x fun v=>ih fun vs=>K (v::vs)) l
noncomputable def dD (q:Bool) (M:Mem) (l:List AV):(List AV->Prop)->Prop :=
 List.rec (motive:=fun _=>(List AV->Prop)->Prop) (fun K=>K []) (fun x _ ih K=>PP q M [] x fun v=>ih fun vs=>K (v::vs)) l
def rsv (vs:List AV) (K:AV->Prop):Prop:=match vs with
 | [v]=>K v
 | vs=>K (.tup vs)
def AJ (a r:AV):Prop:=a=r/\A9 r
noncomputable def O5 (fn:AFn) (r:AV) (tm:Tm) (M:Mem):Prop:=XL tm M fn.res fun vs=>dD false M vs fun vs=>rsv vs fun v=>AJ v r
end Go.Eng
