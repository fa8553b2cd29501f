/-
  Functions of the program, as the abstract machine reads them (group RatG). Written by a program (gen.py) off the model's own reading of the translation; the seat's check ties them to it.
-/
import Derived.Test.YtpefogchdoedbaaGreatB1
import Derived.Test.YtpefogchdoedbaaGreatB3
set_option linter.unusedSimpArgs false
set_option linter.unusedVariables false
set_option linter.unnecessarySimpa false
namespace Go.Eng.F
open C
namespace C8
def r0:List AI:=[o 4 (.alloc 83004 [(.bool false),.nil])]
def r1:List AI:=[m 5 0,m 6 5,g 7 6 true (.mov 1),g 8 6 true (.len 7),g 9 6 true (.bin .gtr 8 (k 0)),o 10 (.pick 6 9 (.c (.bool false))),m 11 1,
 o 12 (.build [(.bool false),.nil] [(0,1,10),(1,1,11)]),n (.st 2 4 12)]
def c:AL:=(.seq (.ops r0 false) (.seq (.dr (.ops r1 false) [0,1,5,6,7,8,9,10,11,12] []) .ret))
end C8
def C8:AFn:=⟨2,C8.c,[.cell 4 true 2],false⟩
namespace JL
def r0:List AI:=[o 1 (.box 1 0),o 2 (.alloc 2 [(.bool false),.nil])]
def r1:List AI:=[o 3 (.fadr 1 0),o 4 (.ld false 1 3),o 5 (.fadr 1 1),o 6 (.ld false 1 5),o 7 (.call 66 [6]),o 8 (.calli 83 [4,7]),n (.st 2 2 8)]
def c:AL:=(.seq (.dr (.ops r0 false) [0] []) (.seq (.dr (.ops r1 true) [1,3,4,5,6,7,8] []) .ret))
end JL
def JL:AFn:=⟨1,JL.c,[.cell 2 true 2],false⟩
namespace JJ
def r0:List AI:=[o 2 (.alloc 2 [(.bool false),.nil])]
def r1:List AI:=[m 4 0,o 5 (.conv .u64 4),m 3 5]
def r2:List AI:=[m 6 0,o 7 (.bin .lss 6 (k 0))]
def r3:List AI:=[m 8 3,o 9 (.un .neg 8),m 3 9]
def r4:List AI:=[m 10 0,o 11 (.bin .lss 10 (k 0)),m 12 3,o 13 (.conv .u32 12),m 14 3,o 15 (.bin .shr 14 (.c (.int .u64 (32)))),o 16 (.conv .u32 15),
 o 17 (.bslice 17 1 [13,16]),o 18 (.call 66 [17]),o 19 (.calli 83 [11,18]),n (.st 2 2 19)]
def c:AL:=(.seq (.ops r0 false) (.seq (.dr (.ops r1 false) [4,5] []) (.seq (.seq (.dr (.ops r2 false) [6] []) (.cond 7 (.dr (.ops r3 false) [7,8,9] []) .skip)) (.seq (.dr (.ops r4 false) [0,3,7,10,11,12,13,14,15,16,17,18,19] []) .ret))))
end JJ
def JJ:AFn:=⟨1,JJ.c,[.cell 2 true 2],false⟩
namespace JK
def r0:List AI:=[o 1 (.box 1 0),o 2 (.mov (k 0))]
def r1:List AI:=[o 4 (.fadr 1 1),o 5 (.ld false 1 4),o 6 (.call 67 [5,(.c .nil)]),o 7 (.bin .eql 6 (k 0)),m 3 7]
def r2:List AI:=[o 2 (.mov (k 0))]
def r3:List AI:=[o 9 (.fadr 1 0),o 10 (.ld false 1 9),m 8 10]
def r4:List AI:=[o 2 (.mov (k (-1)))]
def r5:List AI:=[o 2 (.mov (k 1))]
def c:AL:=(.seq (.dr (.ops r0 false) [0,2] []) (.seq (.block 0 (.seq (.dr (.ops r1 false) [4,5,6,7] []) (.cond 3 (.seq (.dr (.ops r2 false) [1,3] []) .ret) (.seq (.dr (.ops r3 false) [1,3,9,10] []) (.cond 8 (.seq (.dr (.ops r4 false) [8] []) .ret) .skip))))) (.seq (.dr (.ops r5 false) [8] []) .ret)))
end JK
def JK:AFn:=⟨1,JK.c,[.tmp 2],false⟩
namespace JG
def r0:List AI:=[o 2 (.box 2 0),o 3 (.box 3 1),o 4 (.alloc 4 [(.bool false),.nil])]
def r1:List AI:=[o 5 (.fadr 2 0),o 6 (.ld false 1 5),o 7 (.fadr 3 0),o 8 (.ld false 1 7),o 9 (.beq false 6 8)]
def r2:List AI:=[o 10 (.fadr 2 0),o 11 (.ld false 1 10),o 12 (.fadr 2 1),o 13 (.ld false 1 12),o 14 (.fadr 3 1),o 15 (.ld false 1 14),o 16 (.call 68 [13,15]),
 o 17 (.calli 83 [11,16]),n (.st 2 4 17)]
def r3:List AI:=[o 18 (.fadr 2 1),o 19 (.ld false 1 18),o 20 (.fadr 3 1),o 21 (.ld false 1 20),o 22 (.call 67 [19,21]),o 23 (.bin .eql 22 (k (-1)))]
def r4:List AI:=[o 24 (.fadr 3 0),o 25 (.ld false 1 24),o 26 (.fadr 3 1),o 27 (.ld false 1 26),o 28 (.fadr 2 1),o 29 (.ld false 1 28),o 30 (.call 69 [27,29]),
 o 31 (.calli 83 [25,30]),n (.st 2 4 31)]
def r5:List AI:=[o 32 (.fadr 2 0),o 33 (.ld false 1 32),o 34 (.fadr 2 1),o 35 (.ld false 1 34),o 36 (.fadr 3 1),o 37 (.ld false 1 36),o 38 (.call 69 [35,37]),
 o 39 (.calli 83 [33,38]),n (.st 2 4 39)]
def c:AL:=(.seq (.dr (.ops r0 false) [0,1] []) (.seq (.seq (.dr (.ops r1 false) [5,6,7,8] []) (.cond 9 (.seq (.dr (.ops r2 true) [2,3,9,10,11,12,13,14,15,16,17] []) .ret) .skip)) (.seq (.seq (.dr (.ops r3 false) [9,18,19,20,21,22] []) (.cond 23 (.seq (.dr (.ops r4 true) [2,3,23,24,25,26,27,28,29,30,31] []) .ret) .skip)) (.seq (.dr (.ops r5 true) [2,3,23,32,33,34,35,36,37,38,39] []) .ret))))
end JG
def JG:AFn:=⟨2,JG.c,[.cell 4 true 2],false⟩
namespace JI
def r0:List AI:=[o 2 (.box 2 0),o 3 (.box 3 1),o 4 (.alloc 4 [(.bool false),.nil])]
def r1:List AI:=[o 5 (.fadr 2 0),o 6 (.ld false 1 5),o 7 (.fadr 3 0),o 8 (.ld false 1 7),o 9 (.beq true 6 8),o 10 (.fadr 2 1),o 11 (.ld false 1 10),o 12 (.fadr 3 1),
 o 13 (.ld false 1 12),o 14 (.call 70 [11,13]),o 15 (.calli 83 [9,14]),n (.st 2 4 15)]
def c:AL:=(.seq (.dr (.ops r0 false) [0,1] []) (.seq (.dr (.ops r1 true) [2,3,5,6,7,8,9,10,11,12,13,14,15] []) .ret))
end JI
def JI:AFn:=⟨2,JI.c,[.cell 4 true 2],false⟩
namespace HC
def r0:List AI:=[o 1 (.box 1 0),o 2 (.alloc 2 [(.bool false),.nil,.nil,(.bool false)])]
def r1:List AI:=[o 3 (.fadr 1 2),o 4 (.ld false 1 3),o 5 (.len 4),o 6 (.bin .eql 5 (k 1)),m 7 6,g 8 7 true (.fadr 1 2),g 9 7 true (.ld false 1 8),
 g 10 7 true (.iadr none 1 9 (k 0)),g 11 7 true (.ld false 1 10),g 12 7 true (.bin .eql 11 (.c (.int .u32 (1)))),o 13 (.pick 7 12 (.c (.bool false)))]
def r2:List AI:=[o 14 (.fadr 1 0),o 15 (.ld true 2 14),o 16 (.fadr 1 2),o 17 (.ld false 1 16),o 18 (.build [(.bool false),.nil,.nil] [(0,2,15),(2,1,17)]),
 o 19 (.build [(.bool false),.nil,.nil,(.bool false)] [(0,3,18),(3,1,(.c (.bool true)))]),n (.st 4 2 19)]
def r3:List AI:=[o 20 (.fadr 1 2),o 21 (.ld false 1 20),o 22 (.call 67 [21,(.c .nil)]),o 23 (.bin .eql 22 (k 0))]
def r4:List AI:=[o 24 (.build [(.bool false),.nil] []),o 25 (.bslice 25 1 [(.c (.int .u32 (1)))]),o 26 (.build [(.bool false),.nil,.nil] [(0,2,24),(2,1,25)]),
 o 27 (.build [(.bool false),.nil,.nil,(.bool false)] [(0,3,26),(3,1,(.c (.bool true)))]),n (.st 4 2 27)]
def r5:List AI:=[o 28 (.fadr 1 0),o 29 (.ld true 2 28),o 30 (.fadr 1 2),o 31 (.ld false 1 30),o 32 (.build [(.bool false),.nil,.nil] [(0,2,29),(2,1,31)]),
 o 33 (.build [(.bool false),.nil,.nil,(.bool false)] [(0,3,32),(3,1,(.c (.bool false)))]),n (.st 4 2 33)]
def c:AL:=(.seq (.dr (.ops r0 false) [0] []) (.seq (.seq (.dr (.ops r1 false) [3,4,5,6,7,8,9,10,11,12] []) (.cond 13 (.seq (.dr (.ops r2 false) [1,13,14,15,16,17,18,19] []) .ret) .skip)) (.seq (.seq (.dr (.ops r3 false) [13,20,21,22] []) (.cond 23 (.seq (.dr (.ops r4 false) [1,23,24,25,26,27] []) .ret) .skip)) (.seq (.dr (.ops r5 false) [1,23,28,29,30,31,32,33] []) .ret))))
end HC
def HC:AFn:=⟨1,HC.c,[.cell 2 true 4],false⟩
namespace KS
def r0:List AI:=[o 2 (.mov (.c (.bool false)))]
def r1:List AI:=[m 3 0,o 4 (.len 3),o 5 (.bin .eql 4 (k 1)),m 6 5,g 7 6 true (.mov 0),g 8 6 true (.iadr none 1 7 (k 0)),g 9 6 true (.ld false 1 8),
 g 10 6 true (.bin .eql 9 (.c (.int .u32 (1)))),o 11 (.pick 6 10 (.c (.bool false))),m 2 11]
def c:AL:=(.seq (.dr (.ops r0 false) [2] []) (.seq (.dr (.ops r1 false) [0,3,4,5,6,7,8,9,10,11] []) .ret))
end KS
def KS:AFn:=⟨1,KS.c,[.tmp 2],false⟩
namespace KT
def r0:List AI:=[o 2 (.alloc 2 [(.bool false),.nil])]
def r1:List AI:=[m 3 0,o 4 (.build [(.bool false),.nil] [(1,1,3)]),n (.st 2 2 4)]
def c:AL:=(.seq (.ops r0 false) (.seq (.dr (.ops r1 false) [0,3,4] []) .ret))
end KT
def KT:AFn:=⟨1,KT.c,[.cell 2 true 2],false⟩
namespace GI
def r0:List AI:=[o 1 (.box 92001 0),o 2 (.alloc 92002 [(.bool false),.nil,.nil])]
def r1:List AI:=[o 3 (.ld true 2 1),o 4 (.bslice 92004 1 [(.c (.int .u32 (1)))]),o 5 (.build [(.bool false),.nil,.nil] [(0,2,3),(2,1,4)]),n (.st 3 2 5)]
def c:AL:=(.seq (.dr (.ops r0 false) [0] []) (.seq (.dr (.ops r1 false) [1,3,4,5] []) .ret))
end GI
def GI:AFn:=⟨1,GI.c,[.cell 2 true 3],false⟩
namespace H8
def r0:List AI:=[o 2 (.box 93002 0),o 3 (.box 93003 1),o 4 (.alloc 93004 [(.bool false),.nil,.nil])]
def r1:List AI:=[o 5 (.fadr 2 0),o 6 (.ld false 1 5),o 7 (.fadr 3 0),o 8 (.ld false 1 7),o 9 (.beq true 6 8),o 10 (.fadr 2 1),o 11 (.ld false 1 10),
 o 12 (.build [(.bool false),.nil] [(0,1,9),(1,1,11)]),o 13 (.fadr 3 1),o 14 (.ld false 1 13),
 o 15 (.build [(.bool false),.nil,.nil] [(0,2,12),(2,1,14)]),n (.st 3 4 15)]
def c:AL:=(.seq (.dr (.ops r0 false) [0,1] []) (.seq (.dr (.ops r1 false) [2,3,5,6,7,8,9,10,11,12,13,14,15] []) .ret))
end H8
def H8:AFn:=⟨2,H8.c,[.cell 4 true 3],false⟩
namespace KU
def r0:List AI:=[o 1 (.box 1 0),o 2 (.alloc 2 [(.bool false),.nil,.nil])]
def r1:List AI:=[o 14 (.fadr 1 0),o 15 (.fadr 14 1),o 16 (.ld false 1 15),o 17 (.fadr 1 2),o 18 (.ld false 1 17),o 19 (.call 75 [16,18]),m 13 19,o 20 (.ext 13 0),
 o 21 (.ext 13 1),o 22 (.ext 13 2),m 3 20,m 4 21,m 5 22]
def r2:List AI:=[m 23 4,o 24 (.len 23),o 25 (.bin .eql 24 (k 0))]
def r3:List AI:=[o 26 (.fadr 1 0),o 27 (.fadr 26 0),o 28 (.ld false 1 27),m 29 3,o 30 (.build [(.bool false),.nil] [(0,1,28),(1,1,29)]),o 31 (.call 84 [30]),
 o 32 (.calli 92 [31]),n (.st 3 2 32)]
def r4:List AI:=[o 33 (.fadr 1 2),o 34 (.ld false 1 33),m 35 4,o 36 (.call 82 [34,35]),m 6 36]
def r5:List AI:=[m 37 6,o 38 (.call 90 [37])]
def r6:List AI:=[o 39 (.fadr 1 0),o 40 (.ld true 2 39),o 41 (.call 84 [40]),o 42 (.fadr 1 2),o 43 (.ld false 1 42),o 44 (.call 66 [43]),
 o 45 (.build [(.bool false),.nil,.nil] [(0,2,41),(2,1,44)]),n (.st 3 2 45)]
def r7:List AI:=[o 47 (.fadr 1 0),o 48 (.fadr 47 1),o 49 (.ld false 1 48),m 50 6,o 51 (.call 75 [49,50]),m 46 51,o 52 (.ext 46 0),o 53 (.ext 46 1),o 54 (.ext 46 2),
 m 7 52,m 8 53,m 9 54]
def r8:List AI:=[o 56 (.fadr 1 2),o 57 (.ld false 1 56),m 58 6,o 59 (.call 75 [57,58]),m 55 59,o 60 (.ext 55 0),o 61 (.ext 55 1),o 62 (.ext 55 2),m 10 60,m 11 61,
 m 12 62]
def r9:List AI:=[o 63 (.fadr 1 0),o 64 (.fadr 63 0),o 65 (.ld false 1 64),m 66 7,o 67 (.build [(.bool false),.nil] [(0,1,65),(1,1,66)]),m 68 10,
 o 69 (.build [(.bool false),.nil,.nil] [(0,2,67),(2,1,68)]),n (.st 3 2 69)]
def c:AL:=(.seq (.dr (.ops r0 false) [0] []) (.seq (.dr (.ops r1 false) [5,13,14,15,16,17,18,19,20,21,22] []) (.seq (.seq (.dr (.ops r2 false) [23,24] []) (.cond 25 (.seq (.dr (.ops r3 false) [1,3,4,25,26,27,28,29,30,31,32] []) .ret) .skip)) (.seq (.dr (.ops r4 false) [3,4,25,33,34,35,36] []) (.seq (.seq (.dr (.ops r5 false) [37] []) (.cond 38 (.seq (.dr (.ops r6 true) [1,6,38,39,40,41,42,43,44,45] []) .ret) .skip)) (.seq (.dr (.ops r7 false) [8,9,38,46,47,48,49,50,51,52,53,54] []) (.seq (.dr (.ops r8 false) [6,11,12,55,56,57,58,59,60,61,62] []) (.seq (.dr (.ops r9 false) [1,7,10,63,64,65,66,67,68,69] []) .ret))))))))
end KU
def KU:AFn:=⟨1,KU.c,[.cell 2 true 3],false⟩
namespace KQ
def r0:List AI:=[o 1 (.box 1 0),o 2 (.alloc 2 [(.bool false),.nil,.nil])]
def r1:List AI:=[o 3 (.ld true 3 1),o 4 (.callq 89 [3]),o 5 (.fld 4 0 3 true),o 6 (.call 94 [5]),n (.st 3 2 6)]
def c:AL:=(.seq (.dr (.ops r0 false) [0] []) (.seq (.dr (.ops r1 false) [1,3,4,5,6] []) .ret))
end KQ
def KQ:AFn:=⟨1,KQ.c,[.cell 2 true 3],false⟩
namespace KN
def r0:List AI:=[o 2 (.alloc 2 [(.bool false),.nil,.nil])]
def r1:List AI:=[m 3 0,o 4 (.call 85 [3]),o 5 (.calli 92 [4]),n (.st 3 2 5)]
def c:AL:=(.seq (.ops r0 false) (.seq (.dr (.ops r1 false) [0,3,4,5] []) .ret))
end KN
def KN:AFn:=⟨1,KN.c,[.cell 2 true 3],false⟩
namespace KO
def r0:List AI:=[o 1 (.box 1 0),o 2 (.mov (k 0))]
def r1:List AI:=[o 3 (.ld true 3 1),o 4 (.callq 89 [3]),o 5 (.fld 4 0 3 true),o 6 (.fld 5 0 2 true),o 7 (.call 86 [6]),m 2 7]
def c:AL:=(.seq (.dr (.ops r0 false) [0,2] []) (.seq (.dr (.ops r1 false) [1,3,4,5,6,7] []) .ret))
end KO
def KO:AFn:=⟨1,KO.c,[.tmp 2],false⟩
namespace HB
def r0:List AI:=[o 2 (.box 2 0),o 3 (.box 3 1),o 4 (.alloc 4 [(.bool false),.nil,.nil])]
def r1:List AI:=[⟨some 8,.ld true 3 2,none,[5,6]⟩,⟨some 9,.callq 89 [8],none,[5,6]⟩,⟨some 10,.ld true 3 3,none,[5,6]⟩,⟨some 11,.callq 89 [10],none,[5,6]⟩,
 o 5 (.alloc 5 [(.bool false),.nil,.nil,(.bool false)]),o 6 (.alloc 6 [(.bool false),.nil,.nil,(.bool false)]),n (.st 4 5 9),n (.st 4 6 11)]
def r2:List AI:=[o 12 (.fadr 5 3),o 13 (.ld false 1 12),m 14 13,g 15 14 true (.fadr 6 3),g 16 14 true (.ld false 1 15),o 17 (.pick 14 16 (.c (.bool false)))]
def r3:List AI:=[o 18 (.fadr 5 0),o 19 (.fadr 18 0),o 20 (.ld true 2 19),o 21 (.fadr 6 0),o 22 (.fadr 21 0),o 23 (.ld true 2 22),o 24 (.call 87 [20,23]),
 o 25 (.calli 92 [24]),n (.st 3 4 25)]
def r4:List AI:=[o 26 (.fadr 5 0),o 27 (.fadr 26 2),o 28 (.ld false 1 27),o 29 (.fadr 6 0),o 30 (.fadr 29 2),o 31 (.ld false 1 30),o 32 (.call 67 [28,31]),
 o 33 (.bin .eql 32 (k 0))]
def r5:List AI:=[o 34 (.fadr 5 0),o 35 (.fadr 34 0),o 36 (.ld true 2 35),o 37 (.fadr 6 0),o 38 (.fadr 37 0),o 39 (.ld true 2 38),o 40 (.call 87 [36,39]),
 o 41 (.fadr 5 0),o 42 (.fadr 41 2),o 43 (.ld false 1 42),o 44 (.build [(.bool false),.nil,.nil] [(0,2,40),(2,1,43)]),o 45 (.call 94 [44]),
 n (.st 3 4 45)]
def r6:List AI:=[o 46 (.fadr 5 0),o 47 (.fadr 46 0),⟨some 48,.ld true 2 47,none,[7]⟩,o 49 (.fadr 6 0),o 50 (.fadr 49 2),⟨some 51,.ld false 1 50,none,[7]⟩,
 ⟨some 52,.callq 91 [51],none,[7]⟩,⟨some 53,.call 88 [48,52],none,[7]⟩,o 54 (.fadr 6 0),o 55 (.fadr 54 0),⟨some 56,.ld true 2 55,none,[7]⟩,
 o 57 (.fadr 5 0),o 58 (.fadr 57 2),⟨some 59,.ld false 1 58,none,[7]⟩,⟨some 60,.callq 91 [59],none,[7]⟩,⟨some 61,.call 88 [56,60],none,[7]⟩,
 ⟨some 62,.call 87 [53,61],none,[7]⟩,o 7 (.alloc 7 [(.bool false),.nil]),n (.st 2 7 62)]
def r7:List AI:=[o 63 (.ld true 2 7),o 64 (.fadr 5 0),o 65 (.fadr 64 2),o 66 (.ld false 1 65),o 67 (.fadr 6 0),o 68 (.fadr 67 2),o 69 (.ld false 1 68),
 o 70 (.call 70 [66,69]),o 71 (.build [(.bool false),.nil,.nil] [(0,2,63),(2,1,70)]),o 72 (.call 94 [71]),n (.st 3 4 72)]
def c:AL:=(.seq (.dr (.ops r0 false) [0,1] []) (.seq (.dr (.ops r1 true) [2,3,8,9,10,11] []) (.seq (.seq (.dr (.ops r2 false) [12,13,14,15,16] []) (.cond 17 (.seq (.dr (.ops r3 false) [5,6,17,18,19,20,21,22,23,24,25] []) .ret) .skip)) (.seq (.seq (.dr (.ops r4 false) [17,26,27,28,29,30,31,32] []) (.cond 33 (.seq (.dr (.ops r5 true) [5,6,33,34,35,36,37,38,39,40,41,42,43,44,45] []) .ret) .skip)) (.seq (.dr (.ops r6 true) [33,46,47,48,49,50,51,52,53,54,55,56,57,58,59,60,61,62] []) (.seq (.dr (.ops r7 true) [5,6,7,63,64,65,66,67,68,69,70,71,72] []) .ret))))))
end HB
def HB:AFn:=⟨2,HB.c,[.cell 4 true 3],false⟩
namespace H7
def r0:List AI:=[o 2 (.box 2 0),o 3 (.box 3 1),o 4 (.alloc 4 [(.bool false),.nil,.nil])]
def r1:List AI:=[⟨some 8,.ld true 3 2,none,[5,6]⟩,⟨some 9,.callq 89 [8],none,[5,6]⟩,⟨some 10,.ld true 3 3,none,[5,6]⟩,⟨some 11,.callq 89 [10],none,[5,6]⟩,
 o 5 (.alloc 5 [(.bool false),.nil,.nil,(.bool false)]),o 6 (.alloc 6 [(.bool false),.nil,.nil,(.bool false)]),n (.st 4 5 9),n (.st 4 6 11)]
def r2:List AI:=[o 12 (.fadr 5 0),o 13 (.fadr 12 0),o 14 (.ld true 2 13),o 15 (.fadr 6 0),o 16 (.fadr 15 0),o 17 (.ld true 2 16),o 18 (.call 88 [14,17]),
 o 7 (.alloc 7 [(.bool false),.nil]),n (.st 2 7 18)]
def r3:List AI:=[o 19 (.fadr 5 3),o 20 (.ld false 1 19),m 21 20,g 22 21 true (.fadr 6 3),g 23 21 true (.ld false 1 22),o 24 (.pick 21 23 (.c (.bool false)))]
def r4:List AI:=[o 25 (.ld true 2 7),o 26 (.calli 92 [25]),n (.st 3 4 26)]
def r5:List AI:=[o 27 (.ld true 2 7),o 28 (.fadr 5 0),o 29 (.fadr 28 2),o 30 (.ld false 1 29),o 31 (.fadr 6 0),o 32 (.fadr 31 2),o 33 (.ld false 1 32),
 o 34 (.call 70 [30,33]),o 35 (.build [(.bool false),.nil,.nil] [(0,2,27),(2,1,34)]),o 36 (.call 94 [35]),n (.st 3 4 36)]
def c:AL:=(.seq (.dr (.ops r0 false) [0,1] []) (.seq (.dr (.ops r1 true) [2,3,8,9,10,11] []) (.seq (.dr (.ops r2 false) [12,13,14,15,16,17,18] []) (.seq (.seq (.dr (.ops r3 false) [19,20,21,22,23] []) (.cond 24 (.seq (.dr (.ops r4 false) [5,6,7,24,25,26] []) .ret) .skip)) (.seq (.dr (.ops r5 true) [5,6,7,24,27,28,29,30,31,32,33,34,35,36] []) .ret)))))
end H7
def H7:AFn:=⟨2,H7.c,[.cell 4 true 3],false⟩
namespace H6
def r0:List AI:=[o 2 (.box 2 0),o 3 (.box 3 1),o 4 (.alloc 4 [(.bool false),.nil,.nil]),o 5 (.mov (k 0))]
def r1:List AI:=[⟨some 10,.ld true 3 2,none,[6,7]⟩,⟨some 11,.callq 89 [10],none,[6,7]⟩,⟨some 12,.ld true 3 3,none,[6,7]⟩,⟨some 13,.callq 89 [12],none,[6,7]⟩,
 o 6 (.alloc 6 [(.bool false),.nil,.nil,(.bool false)]),o 7 (.alloc 7 [(.bool false),.nil,.nil,(.bool false)]),n (.st 4 6 11),n (.st 4 7 13)]
def r2:List AI:=[o 14 (.fadr 7 0),o 15 (.fadr 14 0),o 16 (.ld true 2 15),o 17 (.call 86 [16]),o 18 (.bin .eql 17 (k 0))]
def r3:List AI:=[o 19 (.build [(.bool false),.nil,.nil] []),n (.st 3 4 19),o 5 (.mov (k 3))]
def r4:List AI:=[o 20 (.fadr 6 0),o 21 (.fadr 20 0),⟨some 22,.ld true 2 21,none,[8]⟩,o 23 (.fadr 7 0),o 24 (.fadr 23 2),⟨some 25,.ld false 1 24,none,[8]⟩,
 ⟨some 26,.callq 91 [25],none,[8]⟩,⟨some 27,.call 88 [22,26],none,[8]⟩,o 8 (.alloc 8 [(.bool false),.nil]),n (.st 2 8 27)]
def r5:List AI:=[o 28 (.fadr 6 0),o 29 (.fadr 28 2),⟨some 30,.ld false 1 29,none,[9]⟩,⟨some 31,.callq 91 [30],none,[9]⟩,o 32 (.fadr 7 0),o 33 (.fadr 32 0),
 ⟨some 34,.ld true 2 33,none,[9]⟩,⟨some 35,.call 88 [31,34],none,[9]⟩,o 9 (.alloc 9 [(.bool false),.nil]),n (.st 2 9 35)]
def r6:List AI:=[o 36 (.ld true 2 8),o 37 (.ld true 2 9),o 38 (.calli 93 [36,37]),o 39 (.call 94 [38]),n (.st 3 4 39),o 5 (.mov (k 0))]
def c:AL:=(.seq (.dr (.ops r0 false) [0,1,5] []) (.seq (.dr (.ops r1 true) [2,3,10,11,12,13] []) (.seq (.seq (.dr (.ops r2 false) [14,15,16,17] []) (.cond 18 (.seq (.dr (.ops r3 false) [6,7,18,19] []) .ret) .skip)) (.seq (.dr (.ops r4 true) [18,20,21,22,23,24,25,26,27] []) (.seq (.dr (.ops r5 true) [6,7,28,29,30,31,32,33,34,35] []) (.seq (.dr (.ops r6 false) [8,9,36,37,38,39] []) .ret))))))
end H6
def H6:AFn:=⟨2,H6.c,[.cell 4 true 3,.tmp 5],false⟩
structure RatGLib (L:Lib):Prop extends NatGLib L where
 C8:L 83=some F.C8
 JL:L 84=some F.JL
 JJ:L 85=some F.JJ
 JK:L 86=some F.JK
 JG:L 87=some F.JG
 JI:L 88=some F.JI
 HC:L 89=some F.HC
 KS:L 90=some F.KS
 KT:L 91=some F.KT
 GI:L 92=some F.GI
 H8:L 93=some F.H8
 KU:L 94=some F.KU
 KQ:L 95=some F.KQ
 KN:L 96=some F.KN
 KO:L 97=some F.KO
 HB:L 98=some F.HB
 H7:L 99=some F.H7
 H6:L 100=some F.H6
end Go.Eng.F
namespace Go.Eng.F
open C
namespace GJ
def r0:List AI:=[o 2 (.mov (.c .nil))]
def r1:List AI:=[m 4 0,o 5 (.len 4),m 3 5]
def r2:List AI:=[m 6 3,o 7 (.bin .gtr 6 (k 0)),m 8 7,g 9 8 true (.mov 0),g 10 8 true (.mov 3),g 11 8 true (.bin .sub 10 (k 1)),g 12 8 true (.iadr none 1 9 11),
 g 13 8 true (.ld false 1 12),g 14 8 true (.bin .eql 13 (.c (.int .u32 (0)))),o 15 (.pick 8 14 (.c (.bool false)))]
def r3:List AI:=[m 16 3,o 17 (.bin .sub 16 (k 1)),m 3 17]
def r4:List AI:=[m 18 0,m 19 3,o 20 (.slc 1 18 none (some 19)),o 21 (.app 101021 1 4 (.c .nil) 20),m 2 21]
def l1:AL:=(.seq (.seq (.dr (.ops r2 false) [6,7,8,9,10,11,12,13,14] []) (.cond 15 .skip (.exit 0))) (.block 1 (.dr (.ops r3 false) [15,16,17] [])))
def c:AL:=(.seq (.dr (.ops r0 false) [2] []) (.seq (.dr (.ops r1 false) [4,5] []) (.seq (.block 0 (.loop l1)) (.seq (.dr (.ops r4 false) [0,3,15,18,19,20,21] []) .ret))))
end GJ
def GJ:AFn:=⟨1,GJ.c,[.tmp 2],false⟩
namespace KX
def r0:List AI:=[o 4 (.mov (k 0))]
def r1:List AI:=[m 6 0,o 7 (.call 101 [6]),m 8 1,o 9 (.call 101 [8]),m 0 7,m 1 9]
def r2:List AI:=[m 10 0,o 11 (.len 10),m 12 1,o 13 (.len 12),o 14 (.bin .neq 11 13)]
def r3:List AI:=[m 15 0,o 16 (.len 15),m 17 1,o 18 (.len 17),o 19 (.bin .lss 16 18)]
def r4:List AI:=[o 4 (.mov (k (-1)))]
def r5:List AI:=[o 4 (.mov (k 1))]
def r6:List AI:=[m 20 0,o 21 (.len 20),o 22 (.bin .sub 21 (k 1)),m 5 22]
def r7:List AI:=[m 23 5,o 24 (.bin .geq 23 (k 0))]
def r9:List AI:=[m 27 0,m 28 5,o 29 (.iadr none 1 27 28),o 30 (.ld false 1 29),m 31 1,m 32 5,o 33 (.iadr none 1 31 32),o 34 (.ld false 1 33),o 35 (.bin .lss 30 34)]
def CH:List AI:=[o 4 (.mov (k (-1)))]
def CM:List AI:=[m 36 0,m 37 5,o 38 (.iadr none 1 36 37),o 39 (.ld false 1 38),m 40 1,m 41 5,o 42 (.iadr none 1 40 41),o 43 (.ld false 1 42),o 44 (.bin .gtr 39 43)]
def r12:List AI:=[o 4 (.mov (k 1))]
def r8:List AI:=[m 25 5,o 26 (.bin .sub 25 (k 1)),m 5 26]
def C1:List AI:=[o 4 (.mov (k 0))]
def l1:AL:=(.seq (.seq (.dr (.ops r7 false) [23] []) (.cond 24 .skip (.exit 0))) (.seq (.block 1 (.seq (.seq (.dr (.ops r9 true) [24,27,28,29,30,31,32,33,34] []) (.cond 35 (.seq (.dr (.ops CH false) [0,1,5,35] []) .ret) .skip)) (.seq (.dr (.ops CM true) [35,36,37,38,39,40,41,42,43] []) (.cond 44 (.seq (.dr (.ops r12 false) [0,1,5,44] []) .ret) .skip)))) (.dr (.ops r8 false) [25,26,44] [])))
def c:AL:=(.seq (.dr (.ops r0 false) [4] []) (.seq (.dr (.ops r1 false) [6,7,8,9] []) (.seq (.seq (.dr (.ops r2 false) [10,11,12,13] []) (.cond 14 (.seq (.seq (.dr (.ops r3 false) [0,1,14,15,16,17,18] []) (.cond 19 (.seq (.dr (.ops r4 false) [19] []) .ret) .skip)) (.seq (.dr (.ops r5 false) [19] []) .ret)) .skip)) (.seq (.seq (.dr (.ops r6 false) [14,20,21,22] []) (.block 0 (.loop l1))) (.seq (.dr (.ops C1 false) [0,1,5,24] []) .ret)))))
end KX
def KX:AFn:=⟨2,KX.c,[.tmp 4],false⟩
namespace KV
def r0:List AI:=[o 4 (.mov (.c .nil))]
def r1:List AI:=[o 5 (.vrow 5 1)]
def r2:List AI:=[o 6 (.mov (.c (.int .u64 (0))))]
def r3:List AI:=[o 7 (.mov (k 0))]
def r4:List AI:=[m 8 7,m 9 0,o 10 (.len 9),o 11 (.bin .lss 8 10),m 12 11,g 13 12 false (.mov 7),g 14 12 false (.mov 1),g 15 12 false (.len 14),
 g 16 12 false (.bin .lss 13 15),o 17 (.pick 12 (.c (.bool true)) 16)]
def r6:List AI:=[m 20 7,m 21 0,o 22 (.len 21),o 23 (.bin .lss 20 22)]
def r7:List AI:=[m 24 6,m 25 0,m 26 7,o 27 (.iadr none 1 25 26),o 28 (.ld false 1 27),o 29 (.conv .u64 28),o 30 (.bin .add 24 29),m 6 30]
def r8:List AI:=[m 31 7,m 32 1,o 33 (.len 32),o 34 (.bin .lss 31 33)]
def r9:List AI:=[m 35 6,m 36 1,m 37 7,o 38 (.iadr none 1 36 37),o 39 (.ld false 1 38),o 40 (.conv .u64 39),o 41 (.bin .add 35 40),m 6 41]
def CH:List AI:=[m 42 5,m 43 6,o 44 (.conv .u32 43),o 45 (.bslice 45 1 [44]),o 46 (.app 46 1 4 42 45),m 5 46]
def CM:List AI:=[m 47 6,o 48 (.bin .shr 47 (.c (.int .u64 (32)))),m 6 48]
def r5:List AI:=[m 18 7,o 19 (.bin .add 18 (k 1)),m 7 19]
def r12:List AI:=[m 49 5,m 50 6,o 51 (.conv .u32 50),o 52 (.bslice 52 1 [51]),o 53 (.app 53 1 4 49 52),o 54 (.call 101 [53]),m 4 54]
def l1:AL:=(.seq (.seq (.dr (.ops r4 false) [8,9,10,11,12,13,14,15,16] []) (.cond 17 .skip (.exit 0))) (.seq (.block 1 (.seq (.seq (.dr (.ops r6 false) [17,20,21,22] []) (.cond 23 (.dr (.ops r7 false) [23,24,25,26,27,28,29,30] []) .skip)) (.seq (.seq (.dr (.ops r8 false) [23,31,32,33] []) (.cond 34 (.dr (.ops r9 false) [34,35,36,37,38,39,40,41] []) .skip)) (.seq (.dr (.ops CH false) [34,42,43,44,45,46] []) (.dr (.ops CM false) [47,48] []))))) (.dr (.ops r5 false) [18,19] [])))
def c:AL:=(.seq (.dr (.ops r0 false) [4] []) (.seq (.ops r1 false) (.seq (.ops r2 false) (.seq (.seq (.ops r3 false) (.block 0 (.loop l1))) (.seq (.dr (.ops r12 false) [0,1,5,6,7,17,49,50,51,52,53,54] []) .ret)))))
end KV
def KV:AFn:=⟨2,KV.c,[.tmp 4],false⟩
namespace HO
def r0:List AI:=[o 4 (.mov (.c .nil))]
def r1:List AI:=[m 10 0,m 11 1,o 12 (.call 102 [10,11]),o 13 (.bin .lss 12 (k 0))]
def r2:List AI:=[o 4 (.mov (.c .nil))]
def r3:List AI:=[m 14 1,o 15 (.call 101 [14]),m 1 15]
def r4:List AI:=[m 16 0,o 17 (.calli 101 [16]),m 5 17]
def r5:List AI:=[o 6 (.mov (.c (.int .u64 (0))))]
def r6:List AI:=[o 7 (.mov (k 0))]
def r7:List AI:=[m 18 7,m 19 5,o 20 (.len 19),o 21 (.bin .lss 18 20)]
def r9:List AI:=[m 24 6,m 8 24]
def CH:List AI:=[m 25 7,m 26 1,o 27 (.len 26),o 28 (.bin .lss 25 27)]
def CM:List AI:=[m 29 8,m 30 1,m 31 7,o 32 (.iadr none 1 30 31),o 33 (.ld false 1 32),o 34 (.conv .u64 33),o 35 (.bin .add 29 34),m 8 35]
def r12:List AI:=[m 36 5,m 37 7,o 38 (.iadr none 1 36 37),o 39 (.ld false 1 38),o 40 (.conv .u64 39),m 9 40]
def C1:List AI:=[o 6 (.mov (.c (.int .u64 (0))))]
def r14:List AI:=[m 41 9,m 42 8,o 43 (.bin .lss 41 42)]
def r15:List AI:=[m 44 9,o 45 (.bin .add 44 (.c (.int .u64 (4294967296)))),m 9 45]
def r16:List AI:=[o 6 (.mov (.c (.int .u64 (1))))]
def EU:List AI:=[m 46 5,m 47 7,m 48 9,m 49 8,o 50 (.bin .sub 48 49),o 51 (.conv .u32 50),o 52 (.iadr none 1 46 47),n (.st 1 52 51)]
def r8:List AI:=[m 22 7,o 23 (.bin .add 22 (k 1)),m 7 23]
def r18:List AI:=[m 53 5,o 54 (.call 101 [53]),m 4 54]
def l1:AL:=(.seq (.seq (.dr (.ops r7 false) [18,19,20] []) (.cond 21 .skip (.exit 0))) (.seq (.block 1 (.seq (.dr (.ops r9 false) [6,21,24] []) (.seq (.seq (.dr (.ops CH false) [25,26,27] []) (.cond 28 (.dr (.ops CM false) [28,29,30,31,32,33,34,35] []) .skip)) (.seq (.dr (.ops r12 false) [28,36,37,38,39,40] []) (.seq (.ops C1 false) (.seq (.seq (.dr (.ops r14 false) [41,42] []) (.cond 43 (.seq (.dr (.ops r15 false) [6,43,44,45] []) (.ops r16 false)) .skip)) (.dr (.ops EU false) [8,9,43,46,47,48,49,50,51,52] []))))))) (.dr (.ops r8 false) [22,23] [])))
def c:AL:=(.seq (.dr (.ops r0 false) [4] []) (.seq (.seq (.dr (.ops r1 false) [10,11,12] []) (.cond 13 (.seq (.dr (.ops r2 false) [0,1,13] []) .ret) .skip)) (.seq (.dr (.ops r3 false) [13,14,15] []) (.seq (.dr (.ops r4 false) [0,16,17] []) (.seq (.ops r5 false) (.seq (.seq (.ops r6 false) (.block 0 (.loop l1))) (.seq (.dr (.ops r18 false) [1,5,6,7,21,53,54] []) .ret)))))))
end HO
def HO:AFn:=⟨2,HO.c,[.tmp 4],false⟩
namespace KZ
def r0:List AI:=[o 4 (.mov (.c .nil))]
def r1:List AI:=[m 9 0,o 10 (.len 9),m 11 1,o 12 (.len 11),o 13 (.bin .add 10 12),o 14 (.bin .add 13 (k 1)),o 15 (.mk 15 1 4 [(.int .u32 (0))] 14 14),m 5 15]
def r2:List AI:=[o 6 (.mov (k 0))]
def r3:List AI:=[m 16 6,m 17 0,o 18 (.len 17),o 19 (.bin .lss 16 18)]
def r5:List AI:=[o 7 (.mov (.c (.int .u64 (0))))]
def r6:List AI:=[o 8 (.mov (k 0))]
def r7:List AI:=[m 22 8,m 23 1,o 24 (.len 23),o 25 (.bin .lss 22 24)]
def r9:List AI:=[m 28 7,m 29 0,m 30 6,o 31 (.iadr none 1 29 30),o 32 (.ld false 1 31),o 33 (.conv .u64 32),m 34 1,m 35 8,o 36 (.iadr none 1 34 35),
 o 37 (.ld false 1 36),o 38 (.conv .u64 37),o 39 (.bin .mul 33 38),m 40 5,m 41 6,m 42 8,o 43 (.bin .add 41 42),o 44 (.iadr none 1 40 43),
 o 45 (.ld false 1 44),o 46 (.conv .u64 45),o 47 (.bin .add 39 46),o 48 (.bin .add 28 47),m 7 48]
def CH:List AI:=[m 49 5,m 50 6,m 51 8,o 52 (.bin .add 50 51),m 53 7,o 54 (.conv .u32 53),o 55 (.iadr none 1 49 52),n (.st 1 55 54)]
def CM:List AI:=[m 56 7,o 57 (.bin .shr 56 (.c (.int .u64 (32)))),m 7 57]
def r8:List AI:=[m 26 8,o 27 (.bin .add 26 (k 1)),m 8 27]
def r12:List AI:=[m 58 5,m 59 6,m 60 1,o 61 (.len 60),o 62 (.bin .add 59 61),m 63 7,o 64 (.conv .u32 63),o 65 (.iadr none 1 58 62),n (.st 1 65 64)]
def r4:List AI:=[m 20 6,o 21 (.bin .add 20 (k 1)),m 6 21]
def C1:List AI:=[m 66 5,o 67 (.call 101 [66]),m 4 67]
def l2:AL:=(.seq (.seq (.dr (.ops r7 false) [22,23,24] []) (.cond 25 .skip (.exit 2))) (.seq (.block 3 (.seq (.dr (.ops r9 true) [25,28,29,30,31,32,33,34,35,36,37,38,39,40,41,42,43,44,45,46,47,48] []) (.seq (.dr (.ops CH false) [49,50,51,52,53,54,55] []) (.dr (.ops CM false) [56,57] [])))) (.dr (.ops r8 false) [26,27] [])))
def l1:AL:=(.seq (.seq (.dr (.ops r3 false) [16,17,18] []) (.cond 19 .skip (.exit 0))) (.seq (.block 1 (.seq (.dr (.ops r5 false) [19] []) (.seq (.seq (.ops r6 false) (.block 2 (.loop l2))) (.dr (.ops r12 false) [7,8,25,58,59,60,61,62,63,64,65] [])))) (.dr (.ops r4 false) [20,21] [])))
def c:AL:=(.seq (.dr (.ops r0 false) [4] []) (.seq (.dr (.ops r1 false) [9,10,11,12,13,14,15] []) (.seq (.seq (.ops r2 false) (.block 0 (.loop l1))) (.seq (.dr (.ops C1 false) [0,1,5,6,19,66,67] []) .ret))))
end KZ
def KZ:AFn:=⟨2,KZ.c,[.tmp 4],false⟩
namespace KW
def r0:List AI:=[o 2 (.mov (k 0))]
def r1:List AI:=[m 5 0,o 6 (.call 101 [5]),m 0 6]
def r2:List AI:=[m 7 0,o 8 (.len 7),o 9 (.bin .eql 8 (k 0))]
def r3:List AI:=[o 2 (.mov (k 0))]
def r4:List AI:=[m 10 0,o 11 (.len 10),o 12 (.bin .sub 11 (k 1)),o 13 (.bin .mul (k 32) 12),m 3 13]
def r5:List AI:=[m 14 0,m 15 0,o 16 (.len 15),o 17 (.bin .sub 16 (k 1)),o 18 (.iadr none 1 14 17),o 19 (.ld false 1 18),m 4 19]
def r6:List AI:=[m 20 4,o 21 (.bin .gtr 20 (.c (.int .u32 (0))))]
def r8:List AI:=[m 24 3,o 25 (.bin .add 24 (k 1)),m 3 25]
def r7:List AI:=[m 22 4,o 23 (.bin .shr 22 (.c (.int .u64 (1)))),m 4 23]
def r9:List AI:=[m 26 3,m 2 26]
def l1:AL:=(.seq (.seq (.dr (.ops r6 false) [20] []) (.cond 21 .skip (.exit 0))) (.seq (.block 1 (.dr (.ops r8 false) [21,24,25] [])) (.dr (.ops r7 false) [22,23] [])))
def c:AL:=(.seq (.dr (.ops r0 false) [2] []) (.seq (.dr (.ops r1 false) [5,6] []) (.seq (.seq (.dr (.ops r2 false) [7,8] []) (.cond 9 (.seq (.dr (.ops r3 false) [0,9] []) .ret) .skip)) (.seq (.dr (.ops r4 false) [9,10,11,12,13] []) (.seq (.seq (.dr (.ops r5 false) [0,14,15,16,17,18,19] []) (.block 0 (.loop l1))) (.seq (.dr (.ops r9 false) [3,4,21,26] []) .ret))))))
end KW
def KW:AFn:=⟨1,KW.c,[.tmp 2],false⟩
namespace HD
def r0:List AI:=[o 4 (.mov (.c .nil))]
def r1:List AI:=[m 11 0,o 12 (.call 101 [11]),m 0 12]
def r2:List AI:=[m 13 1,o 14 (.bin .gtr 13 (k 65536)),m 15 14,g 16 15 false (.mov 0),g 17 15 false (.len 16),g 18 15 false (.bin .eql 17 (k 0)),
 o 19 (.pick 15 (.c (.bool true)) 18)]
def r3:List AI:=[o 4 (.mov (.c .nil))]
def r4:List AI:=[m 20 1,o 21 (.bin .lss 20 (k 0))]
def r5:List AI:=[m 22 1,m 23 0,o 24 (.len 23),o 25 (.bin .mul (k (-32)) 24),o 26 (.bin .lss 22 25)]
def r6:List AI:=[o 4 (.mov (.c .nil))]
def r7:List AI:=[m 27 1,o 28 (.un .neg 27),m 1 28]
def r8:List AI:=[o 5 (.vrow 107005 1)]
def r9:List AI:=[m 29 1,o 30 (.bin .quo 29 (k 32)),m 6 30]
def CH:List AI:=[m 31 6,m 32 0,o 33 (.len 32),o 34 (.bin .lss 31 33)]
def r12:List AI:=[m 37 0,m 38 6,o 39 (.iadr none 1 37 38),o 40 (.ld false 1 39),o 41 (.conv .u64 40),m 7 41]
def C1:List AI:=[m 42 6,o 43 (.bin .add 42 (k 1)),m 44 0,o 45 (.len 44),o 46 (.bin .lss 43 45)]
def r14:List AI:=[m 47 7,m 48 0,m 49 6,o 50 (.bin .add 49 (k 1)),o 51 (.iadr none 1 48 50),o 52 (.ld false 1 51),o 53 (.conv .u64 52),
 o 54 (.bin .shl 53 (.c (.int .u64 (32)))),o 55 (.bin .or 47 54),m 7 55]
def r15:List AI:=[m 56 5,m 57 7,m 58 1,o 59 (.bin .rem 58 (k 32)),o 60 (.conv .u64 59),o 61 (.bin .shr 57 60),o 62 (.conv .u32 61),o 63 (.bslice 107063 1 [62]),
 o 64 (.app 107064 1 4 56 63),m 5 64]
def CM:List AI:=[m 35 6,o 36 (.bin .add 35 (k 1)),m 6 36]
def r16:List AI:=[m 65 5,o 66 (.call 101 [65]),m 4 66]
def EU:List AI:=[m 67 1,o 68 (.bin .quo 67 (k 32)),o 69 (.mk 107069 1 4 [(.int .u32 (0))] 68 68),m 8 69]
def r18:List AI:=[o 9 (.mov (.c (.int .u64 (0))))]
def r19:List AI:=[o 10 (.mov (k 0))]
def r20:List AI:=[m 70 10,m 71 0,o 72 (.len 71),o 73 (.bin .lss 70 72)]
def r22:List AI:=[m 76 9,m 77 0,m 78 10,o 79 (.iadr none 1 77 78),o 80 (.ld false 1 79),o 81 (.conv .u64 80),m 82 1,o 83 (.bin .rem 82 (k 32)),o 84 (.conv .u64 83),
 o 85 (.bin .shl 81 84),o 86 (.bin .or 76 85),m 9 86]
def r23:List AI:=[m 87 8,m 88 9,o 89 (.conv .u32 88),o 90 (.bslice 107090 1 [89]),o 91 (.app 107091 1 4 87 90),m 8 91]
def KI:List AI:=[m 92 9,o 93 (.bin .shr 92 (.c (.int .u64 (32)))),m 9 93]
def r21:List AI:=[m 74 10,o 75 (.bin .add 74 (k 1)),m 10 75]
def NE:List AI:=[m 94 8,m 95 9,o 96 (.conv .u32 95),o 97 (.bslice 107097 1 [96]),o 98 (.app 107098 1 4 94 97),o 99 (.calli 101 [98]),m 4 99]
def l1:AL:=(.seq (.seq (.dr (.ops CH false) [31,32,33] []) (.cond 34 .skip (.exit 0))) (.seq (.block 1 (.seq (.dr (.ops r12 false) [34,37,38,39,40,41] []) (.seq (.seq (.dr (.ops C1 false) [42,43,44,45] []) (.cond 46 (.dr (.ops r14 false) [46,47,48,49,50,51,52,53,54,55] []) .skip)) (.dr (.ops r15 false) [7,46,56,57,58,59,60,61,62,63,64] [])))) (.dr (.ops CM false) [35,36] [])))
def l2:AL:=(.seq (.seq (.dr (.ops r20 false) [70,71,72] []) (.cond 73 .skip (.exit 2))) (.seq (.block 3 (.seq (.dr (.ops r22 false) [73,76,77,78,79,80,81,82,83,84,85,86] []) (.seq (.dr (.ops r23 false) [87,88,89,90,91] []) (.dr (.ops KI false) [92,93] [])))) (.dr (.ops r21 false) [74,75] [])))
def c:AL:=(.seq (.dr (.ops r0 false) [4] []) (.seq (.dr (.ops r1 false) [11,12] []) (.seq (.seq (.dr (.ops r2 false) [13,14,15,16,17,18] []) (.cond 19 (.seq (.dr (.ops r3 false) [0,1,19] []) .ret) .skip)) (.seq (.seq (.dr (.ops r4 false) [19,20] []) (.cond 21 (.seq (.seq (.dr (.ops r5 false) [21,22,23,24,25] []) (.cond 26 (.seq (.dr (.ops r6 false) [0,1,26] []) .ret) .skip)) (.seq (.dr (.ops r7 false) [26,27,28] []) (.seq (.ops r8 false) (.seq (.seq (.dr (.ops r9 false) [29,30] []) (.block 0 (.loop l1))) (.seq (.dr (.ops r16 false) [0,1,5,6,34,65,66] []) .ret))))) .skip)) (.seq (.dr (.ops EU false) [21,67,68,69] []) (.seq (.ops r18 false) (.seq (.seq (.ops r19 false) (.block 2 (.loop l2))) (.seq (.dr (.ops NE false) [0,1,8,9,10,73,94,95,96,97,98,99] []) .ret))))))))
end HD
def HD:AFn:=⟨2,HD.c,[.tmp 4],false⟩
namespace K0
def r0:List AI:=[o 4 (.mov (.c .nil)),o 5 (.mov (.c (.int .u32 (0))))]
def r1:List AI:=[m 9 0,o 10 (.len 9),o 11 (.mk 11 1 4 [(.int .u32 (0))] 10 10),m 6 11]
def r2:List AI:=[o 7 (.mov (.c (.int .u64 (0))))]
def r3:List AI:=[m 12 0,o 13 (.len 12),o 14 (.bin .sub 13 (k 1)),m 8 14]
def r4:List AI:=[m 15 8,o 16 (.bin .geq 15 (k 0))]
def r6:List AI:=[m 19 7,o 20 (.bin .shl 19 (.c (.int .u64 (32)))),m 21 0,m 22 8,o 23 (.iadr none 1 21 22),o 24 (.ld false 1 23),o 25 (.conv .u64 24),
 o 26 (.bin .or 20 25),m 7 26]
def r7:List AI:=[m 27 6,m 28 8,m 29 7,m 30 1,o 31 (.conv .u64 30),o 32 (.bin .quo 29 31),o 33 (.conv .u32 32),o 34 (.iadr none 1 27 28),n (.st 1 34 33)]
def r8:List AI:=[m 35 7,m 36 1,o 37 (.conv .u64 36),o 38 (.bin .rem 35 37),m 7 38]
def r5:List AI:=[m 17 8,o 18 (.bin .sub 17 (k 1)),m 8 18]
def r9:List AI:=[m 39 6,o 40 (.call 101 [39]),m 41 7,o 42 (.conv .u32 41),m 4 40,m 5 42]
def l1:AL:=(.seq (.seq (.dr (.ops r4 false) [15] []) (.cond 16 .skip (.exit 0))) (.seq (.block 1 (.seq (.dr (.ops r6 false) [16,19,20,21,22,23,24,25,26] []) (.seq (.dr (.ops r7 false) [27,28,29,30,31,32,33,34] []) (.dr (.ops r8 false) [35,36,37,38] [])))) (.dr (.ops r5 false) [17,18] [])))
def c:AL:=(.seq (.dr (.ops r0 false) [4,5] []) (.seq (.dr (.ops r1 false) [9,10,11] []) (.seq (.ops r2 false) (.seq (.seq (.dr (.ops r3 false) [12,13,14] []) (.block 0 (.loop l1))) (.seq (.dr (.ops r9 false) [0,1,6,7,8,16,39,40,41,42] []) .ret)))))
end K0
def K0:AFn:=⟨2,K0.c,[.tmp 4,.tmp 5],false⟩
namespace DH
def r0:List AI:=[o 4 (.mov (.c .nil)),o 5 (.mov (.c .nil)),o 6 (.mov (k 0))]
def r1:List AI:=[m 27 0,o 28 (.call 101 [27]),m 29 1,o 30 (.call 101 [29]),m 0 28,m 1 30]
def r2:List AI:=[m 31 1,o 32 (.len 31),o 33 (.bin .eql 32 (k 0))]
def r3:List AI:=[o 4 (.mov (.c .nil)),o 5 (.mov (.c .nil)),o 6 (.mov (k 3))]
def r4:List AI:=[m 34 1,o 35 (.len 34),o 36 (.bin .eql 35 (k 1))]
def r5:List AI:=[m 38 0,m 39 1,o 40 (.iadr none 1 39 (k 0)),o 41 (.ld false 1 40),o 42 (.call 108 [38,41]),m 37 42,o 43 (.ext 37 0),o 44 (.ext 37 1),m 7 43,m 8 44]
def r6:List AI:=[m 45 7,m 46 8,o 47 (.bslice 47 1 [46]),o 48 (.call 101 [47]),m 4 45,m 5 48,o 6 (.mov (k 0))]
def r7:List AI:=[m 49 0,m 50 1,o 51 (.call 102 [49,50]),o 52 (.bin .lss 51 (k 0))]
def r8:List AI:=[m 53 0,o 4 (.mov (.c .nil)),m 5 53,o 6 (.mov (k 0))]
def r9:List AI:=[m 54 1,m 55 1,o 56 (.len 55),o 57 (.bin .sub 56 (k 1)),o 58 (.slc 1 54 (some 57) none),o 59 (.call 106 [58]),o 60 (.bin .sub (k 32) 59),m 9 60]
def CH:List AI:=[m 61 0,m 62 9,o 63 (.calli 107 [61,62]),m 64 1,m 65 9,o 66 (.call 107 [64,65]),m 10 63,m 11 66]
def CM:List AI:=[m 67 10,o 68 (.bslice 68 1 [(.c (.int .u32 (0)))]),o 69 (.app 69 1 4 67 68),m 10 69]
def r12:List AI:=[m 70 10,o 71 (.len 70),m 72 0,o 73 (.len 72),o 74 (.bin .add 73 (k 1)),o 75 (.bin .lss 71 74)]
def C1:List AI:=[m 76 10,o 77 (.bslice 77 1 [(.c (.int .u32 (0)))]),o 78 (.app 78 1 4 76 77),m 10 78]
def r14:List AI:=[m 79 11,o 80 (.len 79),m 12 80]
def r15:List AI:=[m 81 10,o 82 (.len 81),m 83 12,o 84 (.bin .sub 82 83),o 85 (.mk 85 1 4 [(.int .u32 (0))] 84 84),m 13 85]
def r16:List AI:=[m 86 10,o 87 (.len 86),m 88 12,o 89 (.bin .sub 87 88),o 90 (.bin .sub 89 (k 1)),m 14 90]
def EU:List AI:=[m 91 14,o 92 (.bin .geq 91 (k 0))]
def r19:List AI:=[m 95 10,m 96 14,m 97 12,o 98 (.bin .add 96 97),o 99 (.iadr none 1 95 98),o 100 (.ld false 1 99),o 101 (.conv .u64 100),
 o 102 (.bin .shl 101 (.c (.int .u64 (32)))),m 103 10,m 104 14,m 105 12,o 106 (.bin .add 104 105),o 107 (.bin .sub 106 (k 1)),
 o 108 (.iadr none 1 103 107),o 109 (.ld false 1 108),o 110 (.conv .u64 109),o 111 (.bin .or 102 110),m 15 111]
def r20:List AI:=[m 112 15,m 113 11,m 114 12,o 115 (.bin .sub 114 (k 1)),o 116 (.iadr none 1 113 115),o 117 (.ld false 1 116),o 118 (.conv .u64 117),
 o 119 (.bin .quo 112 118),m 16 119]
def r21:List AI:=[m 120 15,m 121 11,m 122 12,o 123 (.bin .sub 122 (k 1)),o 124 (.iadr none 1 121 123),o 125 (.ld false 1 124),o 126 (.conv .u64 125),
 o 127 (.bin .rem 120 126),m 17 127]
def r22:List AI:=[m 128 16,o 129 (.bin .geq 128 (.c (.int .u64 (4294967296)))),m 130 129,g 131 130 false (.mov 16),g 132 130 false (.mov 11),g 133 130 false (.mov 12),
 g 134 130 false (.bin .sub 133 (k 2)),g 135 130 false (.iadr none 1 132 134),g 136 130 false (.ld false 1 135),g 137 130 false (.conv .u64 136),
 g 138 130 false (.bin .mul 131 137),g 139 130 false (.mov 17),g 140 130 false (.bin .shl 139 (.c (.int .u64 (32)))),g 141 130 false (.mov 10),
 g 142 130 false (.mov 14),g 143 130 false (.mov 12),g 144 130 false (.bin .add 142 143),g 145 130 false (.bin .sub 144 (k 2)),
 g 146 130 false (.iadr none 1 141 145),g 147 130 false (.ld false 1 146),g 148 130 false (.conv .u64 147),g 149 130 false (.bin .or 140 148),
 g 150 130 false (.bin .gtr 138 149),o 151 (.pick 130 (.c (.bool true)) 150)]
def r23:List AI:=[m 152 16,o 153 (.bin .sub 152 (.c (.int .u64 (1)))),m 16 153]
def KI:List AI:=[m 154 17,m 155 11,m 156 12,o 157 (.bin .sub 156 (k 1)),o 158 (.iadr none 1 155 157),o 159 (.ld false 1 158),o 160 (.conv .u64 159),
 o 161 (.bin .add 154 160),m 17 161]
def NE:List AI:=[m 162 17,o 163 (.bin .geq 162 (.c (.int .u64 (4294967296))))]
def OS:List AI:=[o 18 (.mov (.c (.int .u64 (0)))),o 19 (.mov (.c (.int .u64 (0))))]
def QX:List AI:=[o 20 (.mov (k 0))]
def QY:List AI:=[m 164 20,m 165 12,o 166 (.bin .lss 164 165)]
def r30:List AI:=[m 169 19,m 170 16,m 171 11,m 172 20,o 173 (.iadr none 1 171 172),o 174 (.ld false 1 173),o 175 (.conv .u64 174),o 176 (.bin .mul 170 175),
 o 177 (.bin .add 169 176),m 19 177]
def r31:List AI:=[m 178 19,o 179 (.bin .and 178 (.c (.int .u64 (4294967295)))),m 180 18,o 181 (.bin .add 179 180),m 21 181]
def cI:List AI:=[m 182 19,o 183 (.bin .shr 182 (.c (.int .u64 (32)))),m 19 183]
def cJ:List AI:=[m 184 10,m 185 20,m 186 14,o 187 (.bin .add 185 186),o 188 (.iadr none 1 184 187),o 189 (.ld false 1 188),o 190 (.conv .u64 189),m 22 190]
def cK:List AI:=[o 18 (.mov (.c (.int .u64 (0))))]
def cL:List AI:=[m 191 22,m 192 21,o 193 (.bin .lss 191 192)]
def cM:List AI:=[m 194 22,o 195 (.bin .add 194 (.c (.int .u64 (4294967296)))),m 22 195]
def cN:List AI:=[o 18 (.mov (.c (.int .u64 (1))))]
def cO:List AI:=[m 196 10,m 197 20,m 198 14,o 199 (.bin .add 197 198),m 200 22,m 201 21,o 202 (.bin .sub 200 201),o 203 (.conv .u32 202),o 204 (.iadr none 1 196 199),
 n (.st 1 204 203)]
def QZ:List AI:=[m 167 20,o 168 (.bin .add 167 (k 1)),m 20 168]
def r39:List AI:=[m 205 19,m 206 18,o 207 (.bin .add 205 206),m 23 207]
def r40:List AI:=[m 208 10,m 209 14,m 210 12,o 211 (.bin .add 209 210),o 212 (.iadr none 1 208 211),o 213 (.ld false 1 212),o 214 (.conv .u64 213),m 24 214]
def r41:List AI:=[o 18 (.mov (.c (.int .u64 (0))))]
def r42:List AI:=[m 215 24,m 216 23,o 217 (.bin .lss 215 216)]
def r43:List AI:=[m 218 24,o 219 (.bin .add 218 (.c (.int .u64 (4294967296)))),m 24 219]
def r44:List AI:=[o 18 (.mov (.c (.int .u64 (1))))]
def r45:List AI:=[m 220 10,m 221 14,m 222 12,o 223 (.bin .add 221 222),m 224 24,m 225 23,o 226 (.bin .sub 224 225),o 227 (.conv .u32 226),o 228 (.iadr none 1 220 223),
 n (.st 1 228 227)]
def r46:List AI:=[m 229 18,o 230 (.bin .eql 229 (.c (.int .u64 (1))))]
def r47:List AI:=[m 231 16,o 232 (.bin .sub 231 (.c (.int .u64 (1)))),m 16 232]
def r48:List AI:=[o 25 (.mov (.c (.int .u64 (0))))]
def r49:List AI:=[o 26 (.mov (k 0))]
def r50:List AI:=[m 233 26,m 234 12,o 235 (.bin .lss 233 234)]
def r52:List AI:=[m 238 25,m 239 10,m 240 26,m 241 14,o 242 (.bin .add 240 241),o 243 (.iadr none 1 239 242),o 244 (.ld false 1 243),o 245 (.conv .u64 244),m 246 11,
 m 247 26,o 248 (.iadr none 1 246 247),o 249 (.ld false 1 248),o 250 (.conv .u64 249),o 251 (.bin .add 245 250),o 252 (.bin .add 238 251),m 25 252]
def r53:List AI:=[m 253 10,m 254 26,m 255 14,o 256 (.bin .add 254 255),m 257 25,o 258 (.conv .u32 257),o 259 (.iadr none 1 253 256),n (.st 1 259 258)]
def r54:List AI:=[m 260 25,o 261 (.bin .shr 260 (.c (.int .u64 (32)))),m 25 261]
def r51:List AI:=[m 236 26,o 237 (.bin .add 236 (k 1)),m 26 237]
def r55:List AI:=[m 262 10,m 263 14,m 264 12,o 265 (.bin .add 263 264),o 266 (.iadr none 1 262 265),o 267 (.ld false 1 266),m 268 25,o 269 (.conv .u32 268),
 o 270 (.bin .add 267 269),o 271 (.iadr none 1 262 265),n (.st 1 271 270)]
def r56:List AI:=[m 272 13,m 273 14,m 274 16,o 275 (.conv .u32 274),o 276 (.iadr none 1 272 273),n (.st 1 276 275)]
def r18:List AI:=[m 93 14,o 94 (.bin .sub 93 (k 1)),m 14 94]
def r57:List AI:=[m 277 13,o 278 (.call 101 [277]),m 279 10,m 280 12,o 281 (.slc 1 279 none (some 280)),m 282 9,o 283 (.un .neg 282),o 284 (.call 107 [281,283]),m 4 278,
 m 5 284,o 6 (.mov (k 0))]
def l1:AL:=(.seq (.seq (.dr (.ops r12 false) [70,71,72,73,74] []) (.cond 75 .skip (.exit 0))) (.block 1 (.dr (.ops C1 false) [75,76,77,78] [])))
def l3:AL:=(.seq (.seq (.dr (.ops r22 true) [128,129,130,131,132,133,134,135,136,137,138,139,140,141,142,143,144,145,146,147,148,149,150,163] []) (.cond 151 .skip (.exit 4))) (.block 5 (.seq (.dr (.ops r23 false) [151,152,153] []) (.seq (.dr (.ops KI false) [154,155,156,157,158,159,160,161] []) (.seq (.dr (.ops NE false) [162] []) (.cond 163 (.exit 4) .skip))))))
def l4:AL:=(.seq (.seq (.dr (.ops QY false) [164,165] []) (.cond 166 .skip (.exit 6))) (.seq (.block 7 (.seq (.dr (.ops r30 false) [166,169,170,171,172,173,174,175,176,177] []) (.seq (.dr (.ops r31 false) [18,178,179,180,181] []) (.seq (.dr (.ops cI false) [182,183] []) (.seq (.dr (.ops cJ false) [184,185,186,187,188,189,190] []) (.seq (.ops cK false) (.seq (.seq (.dr (.ops cL false) [191,192] []) (.cond 193 (.seq (.dr (.ops cM false) [18,193,194,195] []) (.ops cN false)) .skip)) (.dr (.ops cO false) [21,22,193,196,197,198,199,200,201,202,203,204] [])))))))) (.dr (.ops QZ false) [167,168] [])))
def l5:AL:=(.seq (.seq (.dr (.ops r50 false) [233,234] []) (.cond 235 .skip (.exit 8))) (.seq (.block 9 (.seq (.dr (.ops r52 true) [235,238,239,240,241,242,243,244,245,246,247,248,249,250,251,252] []) (.seq (.dr (.ops r53 false) [253,254,255,256,257,258,259] []) (.dr (.ops r54 false) [260,261] [])))) (.dr (.ops r51 false) [236,237] [])))
def l2:AL:=(.seq (.seq (.dr (.ops EU false) [91] []) (.cond 92 .skip (.exit 2))) (.seq (.block 3 (.seq (.dr (.ops r19 true) [92,95,96,97,98,99,100,101,102,103,104,105,106,107,108,109,110,111] []) (.seq (.dr (.ops r20 false) [112,113,114,115,116,117,118,119] []) (.seq (.dr (.ops r21 false) [15,120,121,122,123,124,125,126,127] []) (.seq (.block 4 (.loop l3)) (.seq (.dr (.ops OS false) [17,151,163] []) (.seq (.seq (.ops QX false) (.block 6 (.loop l4))) (.seq (.dr (.ops r39 false) [18,19,20,166,205,206,207] []) (.seq (.dr (.ops r40 false) [208,209,210,211,212,213,214] []) (.seq (.ops r41 false) (.seq (.seq (.dr (.ops r42 false) [215,216] []) (.cond 217 (.seq (.dr (.ops r43 false) [18,217,218,219] []) (.ops r44 false)) .skip)) (.seq (.dr (.ops r45 false) [23,24,217,220,221,222,223,224,225,226,227,228] []) (.seq (.seq (.dr (.ops r46 false) [18,229] []) (.cond 230 (.seq (.dr (.ops r47 false) [230,231,232] []) (.seq (.ops r48 false) (.seq (.seq (.ops r49 false) (.block 8 (.loop l5))) (.dr (.ops r55 false) [25,26,235,262,263,264,265,266,267,268,269,270,271] [])))) .skip)) (.dr (.ops r56 false) [16,230,272,273,274,275,276] [])))))))))))))) (.dr (.ops r18 false) [93,94] [])))
def c:AL:=(.seq (.dr (.ops r0 false) [4,5,6] []) (.seq (.dr (.ops r1 false) [27,28,29,30] []) (.seq (.seq (.dr (.ops r2 false) [31,32] []) (.cond 33 (.seq (.dr (.ops r3 false) [0,1,33] []) .ret) .skip)) (.seq (.seq (.dr (.ops r4 false) [33,34,35] []) (.cond 36 (.seq (.dr (.ops r5 false) [0,1,36,37,38,39,40,41,42,43,44] []) (.seq (.dr (.ops r6 false) [7,8,45,46,47,48] []) .ret)) .skip)) (.seq (.seq (.dr (.ops r7 false) [36,49,50,51] []) (.cond 52 (.seq (.dr (.ops r8 false) [0,1,52,53] []) .ret) .skip)) (.seq (.dr (.ops r9 false) [52,54,55,56,57,58,59,60] []) (.seq (.dr (.ops CH false) [1,61,62,63,64,65,66] []) (.seq (.dr (.ops CM false) [67,68,69] []) (.seq (.block 0 (.loop l1)) (.seq (.dr (.ops r14 false) [0,75,79,80] []) (.seq (.dr (.ops r15 false) [81,82,83,84,85] []) (.seq (.seq (.dr (.ops r16 false) [86,87,88,89,90] []) (.block 2 (.loop l2))) (.seq (.dr (.ops r57 true) [9,10,11,12,13,14,92,277,278,279,280,281,282,283,284] []) .ret)))))))))))))
end DH
def DH:AFn:=⟨2,DH.c,[.tmp 4,.tmp 5,.tmp 6],false⟩
namespace KY
def r0:List AI:=[o 4 (.mov (.c .nil))]
def r1:List AI:=[m 8 0,o 9 (.call 101 [8]),m 10 1,o 11 (.call 101 [10]),m 0 9,m 1 11]
def r2:List AI:=[m 12 1,o 13 (.len 12),o 14 (.bin .gtr 13 (k 0))]
def r3:List AI:=[m 16 0,m 17 1,o 18 (.call 109 [16,17]),m 15 18,o 19 (.ext 15 0),o 20 (.ext 15 1),o 21 (.ext 15 2),m 5 19,m 6 20,m 7 21]
def r4:List AI:=[m 22 1,m 23 6,m 0 22,m 1 23]
def r5:List AI:=[m 24 0,m 4 24]
def l1:AL:=(.seq (.seq (.dr (.ops r2 false) [12,13] []) (.cond 14 .skip (.exit 0))) (.block 1 (.seq (.dr (.ops r3 false) [0,5,7,14,15,16,17,18,19,20,21] []) (.dr (.ops r4 false) [6,22,23] []))))
def c:AL:=(.seq (.dr (.ops r0 false) [4] []) (.seq (.dr (.ops r1 false) [8,9,10,11] []) (.seq (.block 0 (.loop l1)) (.seq (.dr (.ops r5 false) [0,1,14,24] []) .ret))))
end KY
def KY:AFn:=⟨2,KY.c,[.tmp 4],false⟩
namespace LA
def r0:List AI:=[o 1 (.box 1 0),o 2 (.alloc 2 [(.bool false),.nil])]
def r1:List AI:=[o 4 (.fadr 1 1),o 5 (.ld false 1 4),o 6 (.call 101 [5]),m 3 6]
def r2:List AI:=[o 7 (.fadr 1 0),o 8 (.ld false 1 7),m 9 8,g 10 9 true (.mov 3),g 11 9 true (.len 10),g 12 9 true (.bin .gtr 11 (k 0)),
 o 13 (.pick 9 12 (.c (.bool false))),m 14 3,o 15 (.build [(.bool false),.nil] [(0,1,13),(1,1,14)]),n (.st 2 2 15)]
def c:AL:=(.seq (.dr (.ops r0 false) [0] []) (.seq (.dr (.ops r1 false) [4,5,6] []) (.seq (.dr (.ops r2 false) [1,3,7,8,9,10,11,12,13,14,15] []) .ret)))
end LA
def LA:AFn:=⟨1,LA.c,[.cell 2 true 2],false⟩
namespace K7
def r0:List AI:=[o 2 (.alloc 2 [(.bool false),.nil])]
def r1:List AI:=[m 4 0,o 5 (.bin .lss 4 (k 0))]
def r2:List AI:=[m 6 0,o 7 (.bin .add 6 (k 1)),o 8 (.un .neg 7),o 9 (.conv .u64 8),o 10 (.bin .add 9 (.c (.int .u64 (1)))),m 3 10]
def r3:List AI:=[m 11 3,o 12 (.conv .u32 11),m 13 3,o 14 (.bin .shr 13 (.c (.int .u64 (32)))),o 15 (.conv .u32 14),o 16 (.bslice 16 1 [12,15]),
 o 17 (.build [(.bool false),.nil] [(0,1,(.c (.bool true))),(1,1,16)]),o 18 (.call 111 [17]),n (.st 2 2 18)]
def r4:List AI:=[m 19 0,o 20 (.conv .u32 19),m 21 0,o 22 (.conv .u64 21),o 23 (.bin .shr 22 (.c (.int .u64 (32)))),o 24 (.conv .u32 23),o 25 (.bslice 25 1 [20,24]),
 o 26 (.build [(.bool false),.nil] [(1,1,25)]),o 27 (.call 111 [26]),n (.st 2 2 27)]
def c:AL:=(.seq (.ops r0 false) (.seq (.seq (.dr (.ops r1 false) [4] []) (.cond 5 (.seq (.dr (.ops r2 false) [0,5,6,7,8,9,10] []) (.seq (.dr (.ops r3 false) [3,11,12,13,14,15,16,17,18] []) .ret)) .skip)) (.seq (.dr (.ops r4 false) [0,5,19,20,21,22,23,24,25,26,27] []) .ret)))
end K7
def K7:AFn:=⟨1,K7.c,[.cell 2 true 2],false⟩
namespace K8
def r0:List AI:=[o 1 (.box 1 0),o 2 (.mov (k 0))]
def r1:List AI:=[o 3 (.ld true 2 1),o 4 (.call 111 [3]),n (.st 2 1 4)]
def r2:List AI:=[o 6 (.fadr 1 1),o 7 (.ld false 1 6),o 8 (.len 7),o 9 (.bin .eql 8 (k 0)),m 5 9]
def r3:List AI:=[o 2 (.mov (k 0))]
def r4:List AI:=[o 11 (.fadr 1 0),o 12 (.ld false 1 11),m 10 12]
def r5:List AI:=[o 2 (.mov (k (-1)))]
def r6:List AI:=[o 2 (.mov (k 1))]
def c:AL:=(.seq (.dr (.ops r0 false) [0,2] []) (.seq (.dr (.ops r1 false) [3,4] []) (.seq (.block 0 (.seq (.dr (.ops r2 false) [6,7,8,9] []) (.cond 5 (.seq (.dr (.ops r3 false) [1,5] []) .ret) (.seq (.dr (.ops r4 false) [1,5,11,12] []) (.cond 10 (.seq (.dr (.ops r5 false) [10] []) .ret) .skip))))) (.seq (.dr (.ops r6 false) [10] []) .ret))))
end K8
def K8:AFn:=⟨1,K8.c,[.tmp 2],false⟩
namespace K6
def r0:List AI:=[o 1 (.box 1 0),o 2 (.alloc 2 [(.bool false),.nil])]
def r1:List AI:=[o 3 (.ld true 2 1),o 4 (.call 111 [3]),n (.st 2 1 4)]
def r2:List AI:=[o 5 (.fadr 1 0),o 6 (.ld false 1 5),o 7 (.un .not 6),m 8 7,g 9 8 true (.fadr 1 1),g 10 8 true (.ld false 1 9),g 11 8 true (.len 10),
 g 12 8 true (.bin .gtr 11 (k 0)),o 13 (.pick 8 12 (.c (.bool false))),o 14 (.fadr 1 0),n (.st 1 14 13)]
def r3:List AI:=[o 15 (.ld true 2 1),n (.st 2 2 15)]
def c:AL:=(.seq (.dr (.ops r0 false) [0] []) (.seq (.dr (.ops r1 false) [3,4] []) (.seq (.dr (.ops r2 false) [5,6,7,8,9,10,11,12,13,14] []) (.seq (.dr (.ops r3 false) [1,15] []) .ret))))
end K6
def K6:AFn:=⟨1,K6.c,[.cell 2 true 2],false⟩
namespace K1
def r0:List AI:=[o 2 (.box 2 0),o 3 (.box 3 1),o 4 (.alloc 4 [(.bool false),.nil])]
def r1:List AI:=[o 5 (.ld true 2 2),o 6 (.call 111 [5]),o 7 (.ld true 2 3),o 8 (.call 111 [7]),n (.st 2 2 6),n (.st 2 3 8)]
def r2:List AI:=[o 9 (.fadr 2 0),o 10 (.ld false 1 9),o 11 (.fadr 3 0),o 12 (.ld false 1 11),o 13 (.beq false 10 12)]
def r3:List AI:=[o 14 (.fadr 2 0),o 15 (.ld false 1 14),o 16 (.fadr 2 1),o 17 (.ld false 1 16),o 18 (.fadr 3 1),o 19 (.ld false 1 18),o 20 (.call 103 [17,19]),
 o 21 (.build [(.bool false),.nil] [(0,1,15),(1,1,20)]),o 22 (.call 111 [21]),n (.st 2 4 22)]
def r4:List AI:=[o 23 (.fadr 2 1),o 24 (.ld false 1 23),o 25 (.fadr 3 1),o 26 (.ld false 1 25),o 27 (.call 102 [24,26]),o 28 (.bin .geq 27 (k 0))]
def r5:List AI:=[o 29 (.fadr 2 0),o 30 (.ld false 1 29),o 31 (.fadr 2 1),o 32 (.ld false 1 31),o 33 (.fadr 3 1),o 34 (.ld false 1 33),o 35 (.call 104 [32,34]),
 o 36 (.build [(.bool false),.nil] [(0,1,30),(1,1,35)]),o 37 (.call 111 [36]),n (.st 2 4 37)]
def r6:List AI:=[o 38 (.fadr 3 0),o 39 (.ld false 1 38),o 40 (.fadr 3 1),o 41 (.ld false 1 40),o 42 (.fadr 2 1),o 43 (.ld false 1 42),o 44 (.call 104 [41,43]),
 o 45 (.build [(.bool false),.nil] [(0,1,39),(1,1,44)]),o 46 (.call 111 [45]),n (.st 2 4 46)]
def c:AL:=(.seq (.dr (.ops r0 false) [0,1] []) (.seq (.dr (.ops r1 true) [5,6,7,8] []) (.seq (.seq (.dr (.ops r2 false) [9,10,11,12] []) (.cond 13 (.seq (.dr (.ops r3 true) [2,3,13,14,15,16,17,18,19,20,21,22] []) .ret) .skip)) (.seq (.seq (.dr (.ops r4 false) [13,23,24,25,26,27] []) (.cond 28 (.seq (.dr (.ops r5 true) [2,3,28,29,30,31,32,33,34,35,36,37] []) .ret) .skip)) (.seq (.dr (.ops r6 true) [2,3,28,38,39,40,41,42,43,44,45,46] []) .ret)))))
end K1
def K1:AFn:=⟨2,K1.c,[.cell 4 true 2],false⟩
namespace K9
def r0:List AI:=[o 2 (.box 2 0),o 3 (.box 3 1),o 4 (.alloc 4 [(.bool false),.nil])]
def r1:List AI:=[o 5 (.ld true 2 2),o 6 (.ld true 2 3),o 7 (.call 114 [6]),o 8 (.call 115 [5,7]),n (.st 2 4 8)]
def c:AL:=(.seq (.dr (.ops r0 false) [0,1] []) (.seq (.dr (.ops r1 true) [2,3,5,6,7,8] []) .ret))
end K9
def K9:AFn:=⟨2,K9.c,[.cell 4 true 2],false⟩
namespace K2
def r0:List AI:=[o 2 (.box 2 0),o 3 (.box 3 1),o 4 (.mov (k 0))]
def r1:List AI:=[o 5 (.ld true 2 2),o 6 (.ld true 2 3),o 7 (.call 116 [5,6]),o 8 (.call 113 [7]),m 4 8]
def c:AL:=(.seq (.dr (.ops r0 false) [0,1,4] []) (.seq (.dr (.ops r1 false) [2,3,5,6,7,8] []) .ret))
end K2
def K2:AFn:=⟨2,K2.c,[.tmp 4],false⟩
namespace K5
def r0:List AI:=[o 2 (.box 2 0),o 3 (.box 3 1),o 4 (.alloc 4 [(.bool false),.nil])]
def r1:List AI:=[o 5 (.fadr 2 0),o 6 (.ld false 1 5),o 7 (.fadr 3 0),o 8 (.ld false 1 7),o 9 (.beq true 6 8),o 10 (.fadr 2 1),o 11 (.ld false 1 10),o 12 (.fadr 3 1),
 o 13 (.ld false 1 12),o 14 (.call 105 [11,13]),o 15 (.build [(.bool false),.nil] [(0,1,9),(1,1,14)]),o 16 (.call 111 [15]),n (.st 2 4 16)]
def c:AL:=(.seq (.dr (.ops r0 false) [0,1] []) (.seq (.dr (.ops r1 true) [2,3,5,6,7,8,9,10,11,12,13,14,15,16] []) .ret))
end K5
def K5:AFn:=⟨2,K5.c,[.cell 4 true 2],false⟩
namespace K3
def r0:List AI:=[o 2 (.box 2 0),o 3 (.box 3 1),o 4 (.alloc 4 [(.bool false),.nil]),o 5 (.alloc 5 [(.bool false),.nil]),o 6 (.mov (k 0))]
def r1:List AI:=[o 10 (.ld true 2 2),o 11 (.call 111 [10]),o 12 (.ld true 2 3),o 13 (.call 111 [12]),n (.st 2 2 11),n (.st 2 3 13)]
def r2:List AI:=[o 15 (.fadr 2 1),o 16 (.ld false 1 15),o 17 (.fadr 3 1),o 18 (.ld false 1 17),o 19 (.call 109 [16,18]),m 14 19,o 20 (.ext 14 0),o 21 (.ext 14 1),
 o 22 (.ext 14 2),m 7 20,m 8 21,m 9 22]
def r3:List AI:=[m 23 9,o 24 (.bin .neq 23 (k 0))]
def r4:List AI:=[o 25 (.build [(.bool false),.nil] []),o 26 (.build [(.bool false),.nil] []),m 27 9,n (.st 2 4 25),n (.st 2 5 26),m 6 27]
def r5:List AI:=[o 28 (.fadr 2 0),o 29 (.ld false 1 28),m 30 29,g 31 30 true (.mov 8),g 32 30 true (.len 31),g 33 30 true (.bin .gtr 32 (k 0)),
 o 34 (.pick 30 33 (.c (.bool false)))]
def r6:List AI:=[m 35 7,o 36 (.bslice 36 1 [(.c (.int .u32 (1)))]),o 37 (.call 103 [35,36]),o 38 (.fadr 3 1),⟨some 39,.ld false 1 38,none,[36]⟩,m 40 8,
 o 41 (.call 104 [39,40]),m 7 37,m 8 41]
def r7:List AI:=[o 42 (.fadr 2 0),o 43 (.ld false 1 42),o 44 (.fadr 3 0),o 45 (.ld false 1 44),o 46 (.beq true 43 45),m 47 7,
 o 48 (.build [(.bool false),.nil] [(0,1,46),(1,1,47)]),o 49 (.call 111 [48]),m 50 8,o 51 (.build [(.bool false),.nil] [(1,1,50)]),n (.st 2 4 49),
 n (.st 2 5 51),o 6 (.mov (k 0))]
def c:AL:=(.seq (.dr (.ops r0 false) [0,1,6] []) (.seq (.dr (.ops r1 true) [10,11,12,13] []) (.seq (.dr (.ops r2 false) [14,15,16,17,18,19,20,21,22] []) (.seq (.seq (.dr (.ops r3 false) [23] []) (.cond 24 (.seq (.dr (.ops r4 false) [2,3,7,8,9,24,25,26,27] []) .ret) .skip)) (.seq (.seq (.dr (.ops r5 false) [9,24,28,29,30,31,32,33] []) (.cond 34 (.dr (.ops r6 true) [34,35,36,37,38,39,40,41] []) .skip)) (.seq (.dr (.ops r7 false) [2,3,7,8,34,42,43,44,45,46,47,48,49,50,51] []) .ret))))))
end K3
def K3:AFn:=⟨2,K3.c,[.cell 4 true 2,.cell 5 true 2,.tmp 6],false⟩
namespace K4
def r0:List AI:=[o 2 (.box 2 0),o 3 (.box 3 1),o 4 (.alloc 4 [(.bool false),.nil])]
def r1:List AI:=[o 5 (.fadr 2 1),o 6 (.ld false 1 5),o 7 (.fadr 3 1),o 8 (.ld false 1 7),o 9 (.call 110 [6,8]),o 10 (.build [(.bool false),.nil] [(1,1,9)]),
 n (.st 2 4 10)]
def c:AL:=(.seq (.dr (.ops r0 false) [0,1] []) (.seq (.dr (.ops r1 false) [2,3,5,6,7,8,9,10] []) .ret))
end K4
def K4:AFn:=⟨2,K4.c,[.cell 4 true 2],false⟩
namespace HE
def r0:List AI:=[o 2 (.box 2 0),o 3 (.box 3 1),o 4 (.alloc 4 [(.bool false),.nil,.nil])]
def r1:List AI:=[o 12 (.ld true 2 2),o 13 (.call 113 [12]),o 14 (.bin .eql 13 (k 0)),m 15 14,g 16 15 false (.ld true 2 3),g 17 15 false (.call 113 [16]),
 g 18 15 false (.bin .eql 17 (k 0)),o 19 (.pick 15 (.c (.bool true)) 18)]
def r2:List AI:=[o 20 (.bslice 20 1 [(.c (.int .u32 (1)))]),o 21 (.build [(.bool false),.nil,.nil] [(2,1,20)]),n (.st 3 4 21)]
def r3:List AI:=[o 22 (.ld true 2 2),o 23 (.ld true 2 3),o 24 (.call 120 [22,23]),o 5 (.alloc 5 [(.bool false),.nil]),n (.st 2 5 24)]
def r4:List AI:=[o 26 (.ld true 2 2),o 27 (.ld true 2 5),o 28 (.call 119 [26,27]),m 25 28,o 29 (.ext 25 0),o 30 (.ext 25 1),o 31 (.ext 25 2),
 o 6 (.alloc 6 [(.bool false),.nil]),o 7 (.alloc 7 [(.bool false),.nil]),n (.st 2 6 29),n (.st 2 7 30),m 8 31]
def r5:List AI:=[o 33 (.ld true 2 3),o 34 (.ld true 2 5),o 35 (.call 119 [33,34]),m 32 35,o 36 (.ext 32 0),o 37 (.ext 32 1),o 38 (.ext 32 2),
 o 9 (.alloc 9 [(.bool false),.nil]),o 10 (.alloc 10 [(.bool false),.nil]),n (.st 2 9 36),n (.st 2 10 37),m 11 38]
def r6:List AI:=[o 39 (.fadr 9 0),o 40 (.ld false 1 39)]
def r7:List AI:=[o 41 (.ld true 2 6),o 42 (.call 114 [41]),n (.st 2 6 42)]
def r8:List AI:=[o 43 (.ld true 2 6),o 44 (.fadr 9 1),o 45 (.ld false 1 44),o 46 (.build [(.bool false),.nil,.nil] [(0,2,43),(2,1,45)]),n (.st 3 4 46)]
def c:AL:=(.seq (.dr (.ops r0 false) [0,1] []) (.seq (.seq (.dr (.ops r1 false) [12,13,14,15,16,17,18] []) (.cond 19 (.seq (.dr (.ops r2 false) [2,3,19,20,21] []) .ret) .skip)) (.seq (.dr (.ops r3 false) [19,22,23,24] []) (.seq (.dr (.ops r4 false) [2,7,8,25,26,27,28,29,30,31] []) (.seq (.dr (.ops r5 false) [3,5,10,11,32,33,34,35,36,37,38] []) (.seq (.seq (.dr (.ops r6 false) [39] []) (.cond 40 (.dr (.ops r7 false) [40,41,42] []) .skip)) (.seq (.dr (.ops r8 false) [6,9,40,43,44,45,46] []) .ret)))))))
end HE
def HE:AFn:=⟨2,HE.c,[.cell 4 true 3],false⟩
namespace H9
def r0:List AI:=[o 1 (.box 1 0),o 2 (.alloc 2 [(.bool false),.nil]),o 3 (.alloc 3 [(.bool false),.nil])]
def r1:List AI:=[o 5 (.fadr 1 2),o 6 (.ld false 1 5),o 7 (.call 101 [6]),o 8 (.build [(.bool false),.nil] [(1,1,7)]),o 4 (.alloc 4 [(.bool false),.nil]),n (.st 2 4 8)]
def r2:List AI:=[o 9 (.fadr 4 1),o 10 (.ld false 1 9),o 11 (.len 10),o 12 (.bin .eql 11 (k 0))]
def r3:List AI:=[o 13 (.build [(.bool false),.nil] []),o 14 (.bslice 14 1 [(.c (.int .u32 (1)))]),o 15 (.build [(.bool false),.nil] [(1,1,14)]),n (.st 2 2 13),
 n (.st 2 3 15)]
def r4:List AI:=[o 16 (.fadr 1 0),o 17 (.ld true 2 16),⟨some 18,.ld true 2 4,none,[2]⟩,n (.sto 2 2 2 17),n (.st 2 3 18)]
def c:AL:=(.seq (.dr (.ops r0 false) [0] []) (.seq (.dr (.ops r1 false) [5,6,7,8] []) (.seq (.seq (.dr (.ops r2 false) [9,10,11] []) (.cond 12 (.seq (.dr (.ops r3 false) [1,4,12,13,14,15] []) .ret) .skip)) (.seq (.dr (.ops r4 true) [1,4,12,16,17,18] []) .ret))))
end H9
def H9:AFn:=⟨1,H9.c,[.cell 2 true 2,.cell 3 true 2],false⟩
namespace LL
def r0:List AI:=[o 1 (.box 1 0),o 2 (.alloc 2 [(.bool false),.nil,.nil])]
def r1:List AI:=[o 6 (.ld true 3 1),o 7 (.call 122 [6]),m 5 7,o 8 (.ext 5 0),o 9 (.ext 5 1),o 3 (.alloc 3 [(.bool false),.nil]),o 4 (.alloc 4 [(.bool false),.nil]),
 n (.st 2 3 8),n (.st 2 4 9)]
def r2:List AI:=[o 10 (.ld true 2 3),o 11 (.ld true 2 4),o 12 (.call 121 [10,11]),n (.st 3 2 12)]
def c:AL:=(.seq (.dr (.ops r0 false) [0] []) (.seq (.dr (.ops r1 false) [1,5,6,7,8,9] []) (.seq (.dr (.ops r2 false) [3,4,10,11,12] []) .ret)))
end LL
def LL:AFn:=⟨1,LL.c,[.cell 2 true 3],false⟩
namespace LH
def r0:List AI:=[o 2 (.alloc 2 [(.bool false),.nil,.nil])]
def r1:List AI:=[m 3 0,o 4 (.call 112 [3]),o 5 (.bslice 5 1 [(.c (.int .u32 (1)))]),o 6 (.build [(.bool false),.nil,.nil] [(0,2,4),(2,1,5)]),n (.st 3 2 6)]
def c:AL:=(.seq (.ops r0 false) (.seq (.dr (.ops r1 false) [0,3,4,5,6] []) .ret))
end LH
def LH:AFn:=⟨1,LH.c,[.cell 2 true 3],false⟩
namespace LE
def r0:List AI:=[o 4 (.alloc 4 [(.bool false),.nil,.nil])]
def r1:List AI:=[m 5 0,o 6 (.call 112 [5]),m 7 1,o 8 (.call 112 [7]),o 9 (.call 121 [6,8]),n (.st 3 4 9)]
def c:AL:=(.seq (.ops r0 false) (.seq (.dr (.ops r1 false) [0,1,5,6,7,8,9] []) .ret))
end LE
def LE:AFn:=⟨2,LE.c,[.cell 4 true 3],false⟩
namespace LB
def r0:List AI:=[o 2 (.box 2 0),o 3 (.box 3 1),o 4 (.alloc 4 [(.bool false),.nil,.nil])]
def r1:List AI:=[o 10 (.ld true 3 2),o 11 (.call 122 [10]),m 9 11,o 12 (.ext 9 0),o 13 (.ext 9 1),o 5 (.alloc 5 [(.bool false),.nil]),
 o 6 (.alloc 6 [(.bool false),.nil]),n (.st 2 5 12),n (.st 2 6 13)]
def r2:List AI:=[o 15 (.ld true 3 3),o 16 (.call 122 [15]),m 14 16,o 17 (.ext 14 0),o 18 (.ext 14 1),o 7 (.alloc 7 [(.bool false),.nil]),
 o 8 (.alloc 8 [(.bool false),.nil]),n (.st 2 7 17),n (.st 2 8 18)]
def r3:List AI:=[o 19 (.ld true 2 5),o 20 (.ld true 2 8),o 21 (.call 118 [19,20]),o 22 (.ld true 2 7),o 23 (.ld true 2 6),o 24 (.call 118 [22,23]),
 o 25 (.call 115 [21,24]),o 26 (.ld true 2 6),o 27 (.ld true 2 8),o 28 (.call 118 [26,27]),o 29 (.call 121 [25,28]),n (.st 3 4 29)]
def c:AL:=(.seq (.dr (.ops r0 false) [0,1] []) (.seq (.dr (.ops r1 false) [2,9,10,11,12,13] []) (.seq (.dr (.ops r2 false) [3,14,15,16,17,18] []) (.seq (.dr (.ops r3 true) [5,6,7,8,19,20,21,22,23,24,25,26,27,28,29] []) .ret))))
end LB
def LB:AFn:=⟨2,LB.c,[.cell 4 true 3],false⟩
namespace LC
def r0:List AI:=[o 2 (.box 2 0),o 3 (.box 3 1),o 4 (.mov (k 0))]
def r1:List AI:=[o 10 (.ld true 3 2),o 11 (.call 122 [10]),m 9 11,o 12 (.ext 9 0),o 13 (.ext 9 1),o 5 (.alloc 5 [(.bool false),.nil]),
 o 6 (.alloc 6 [(.bool false),.nil]),n (.st 2 5 12),n (.st 2 6 13)]
def r2:List AI:=[o 15 (.ld true 3 3),o 16 (.call 122 [15]),m 14 16,o 17 (.ext 14 0),o 18 (.ext 14 1),o 7 (.alloc 7 [(.bool false),.nil]),
 o 8 (.alloc 8 [(.bool false),.nil]),n (.st 2 7 17),n (.st 2 8 18)]
def r3:List AI:=[o 19 (.ld true 2 5),o 20 (.ld true 2 8),o 21 (.call 118 [19,20]),o 22 (.ld true 2 7),o 23 (.ld true 2 6),o 24 (.call 118 [22,23]),
 o 25 (.call 117 [21,24]),m 4 25]
def c:AL:=(.seq (.dr (.ops r0 false) [0,1,4] []) (.seq (.dr (.ops r1 false) [2,9,10,11,12,13] []) (.seq (.dr (.ops r2 false) [3,14,15,16,17,18] []) (.seq (.dr (.ops r3 true) [5,6,7,8,19,20,21,22,23,24,25] []) .ret))))
end LC
def LC:AFn:=⟨2,LC.c,[.tmp 4],false⟩
namespace LF
def r0:List AI:=[o 2 (.box 2 0),o 3 (.box 3 1),o 4 (.alloc 4 [(.bool false),.nil,.nil])]
def r1:List AI:=[o 10 (.ld true 3 2),o 11 (.call 122 [10]),m 9 11,o 12 (.ext 9 0),o 13 (.ext 9 1),o 5 (.alloc 5 [(.bool false),.nil]),
 o 6 (.alloc 6 [(.bool false),.nil]),n (.st 2 5 12),n (.st 2 6 13)]
def r2:List AI:=[o 15 (.ld true 3 3),o 16 (.call 122 [15]),m 14 16,o 17 (.ext 14 0),o 18 (.ext 14 1),o 7 (.alloc 7 [(.bool false),.nil]),
 o 8 (.alloc 8 [(.bool false),.nil]),n (.st 2 7 17),n (.st 2 8 18)]
def r3:List AI:=[o 19 (.ld true 2 5),o 20 (.ld true 2 7),o 21 (.call 118 [19,20]),o 22 (.ld true 2 6),o 23 (.ld true 2 8),o 24 (.call 118 [22,23]),
 o 25 (.call 121 [21,24]),n (.st 3 4 25)]
def c:AL:=(.seq (.dr (.ops r0 false) [0,1] []) (.seq (.dr (.ops r1 false) [2,9,10,11,12,13] []) (.seq (.dr (.ops r2 false) [3,14,15,16,17,18] []) (.seq (.dr (.ops r3 true) [5,6,7,8,19,20,21,22,23,24,25] []) .ret))))
end LF
def LF:AFn:=⟨2,LF.c,[.cell 4 true 3],false⟩
namespace LR
def r0:List AI:=[o 4 (.mov (.c (.bool false)))]
def r1:List AI:=[m 6 0,o 7 (.len 6),m 8 1,o 9 (.len 8),o 10 (.bin .neq 7 9)]
def r2:List AI:=[o 4 (.mov (.c (.bool false)))]
def r3:List AI:=[o 5 (.mov (k 0))]
def r4:List AI:=[m 11 5,m 12 0,o 13 (.len 12),o 14 (.bin .lss 11 13)]
def r6:List AI:=[m 17 0,m 18 5,o 19 (.iadr none 3 17 18),o 20 (.ld true 3 19),m 21 1,m 22 5,o 23 (.iadr none 3 21 22),o 24 (.ld true 3 23),o 25 (.call 127 [20,24]),
 o 26 (.bin .neq 25 (k 0))]
def r7:List AI:=[o 4 (.mov (.c (.bool false)))]
def r5:List AI:=[m 15 5,o 16 (.bin .add 15 (k 1)),m 5 16]
def r8:List AI:=[o 4 (.mov (.c (.bool true)))]
def l1:AL:=(.seq (.seq (.dr (.ops r4 false) [11,12,13] []) (.cond 14 .skip (.exit 0))) (.seq (.block 1 (.seq (.dr (.ops r6 true) [14,17,18,19,20,21,22,23,24,25] []) (.cond 26 (.seq (.dr (.ops r7 false) [0,1,5,26] []) .ret) .skip))) (.dr (.ops r5 false) [15,16,26] [])))
def c:AL:=(.seq (.dr (.ops r0 false) [4] []) (.seq (.seq (.dr (.ops r1 false) [6,7,8,9] []) (.cond 10 (.seq (.dr (.ops r2 false) [0,1,10] []) .ret) .skip)) (.seq (.seq (.dr (.ops r3 false) [10] []) (.block 0 (.loop l1))) (.seq (.dr (.ops r8 false) [0,1,5,14] []) .ret))))
end LR
def LR:AFn:=⟨2,LR.c,[.tmp 4],false⟩
structure RefGLib (L:Lib):Prop where
 GJ:L 101=some F.GJ
 KX:L 102=some F.KX
 KV:L 103=some F.KV
 HO:L 104=some F.HO
 KZ:L 105=some F.KZ
 KW:L 106=some F.KW
 HD:L 107=some F.HD
 K0:L 108=some F.K0
 DH:L 109=some F.DH
 KY:L 110=some F.KY
 LA:L 111=some F.LA
 K7:L 112=some F.K7
 K8:L 113=some F.K8
 K6:L 114=some F.K6
 K1:L 115=some F.K1
 K9:L 116=some F.K9
 K2:L 117=some F.K2
 K5:L 118=some F.K5
 K3:L 119=some F.K3
 K4:L 120=some F.K4
 HE:L 121=some F.HE
 H9:L 122=some F.H9
 LL:L 123=some F.LL
 LH:L 124=some F.LH
 LE:L 125=some F.LE
 LB:L 126=some F.LB
 LC:L 127=some F.LC
 LF:L 128=some F.LF
 LR:L 129=some F.LR
end Go.Eng.F

namespace Go.Eng.F
open C
namespace J4
def r0:List AI:=[o 1 (.box 1 0),o 2 (.mov (.c (.bool false)))]
def r1:List AI:=[o 6 (.fadr 1 0),o 7 (.ld false 1 6),o 8 (.len 7),m 3 8]
def r2:List AI:=[m 9 3,o 10 (.bin .gtr 9 (k 64)),m 11 10,g 12 11 false (.fadr 1 1),g 13 11 false (.ld false 1 12),g 14 11 false (.len 13),g 15 11 false (.mov 3),
 g 16 11 false (.bin .neq 14 15),o 17 (.pick 11 (.c (.bool true)) 16),m 18 17,g 19 18 false (.fadr 1 2),g 20 18 false (.ld false 1 19),
 g 21 18 false (.len 20),g 22 18 false (.mov 3),g 23 18 false (.bin .neq 21 22),o 24 (.pick 18 (.c (.bool true)) 23)]
def r3:List AI:=[o 2 (.mov (.c (.bool false)))]
def r4:List AI:=[o 25 (.fadr 1 0),o 26 (.ld false 1 25),o 27 (.len 26),o 28 (.mov (k 0))]
def r5:List AI:=[o 29 (.bin .lss 28 27)]
def r6:List AI:=[o 30 (.iadr none 1 26 28),o 31 (.ld false 1 30),m 5 31]
def r7:List AI:=[m 32 5,o 33 (.len 32),m 34 3,o 35 (.bin .neq 33 34)]
def r8:List AI:=[o 2 (.mov (.c (.bool false)))]
def r9:List AI:=[o 36 (.bin .add 28 (k 1)),m 28 36]
def CH:List AI:=[o 2 (.mov (.c (.bool true)))]
def l1:AL:=(.seq (.ops r5 false) (.seq (.cond 29 .skip (.exit 0)) (.seq (.block 1 (.seq (.dr (.ops r6 false) [29,30,31] []) (.seq (.dr (.ops r7 false) [5,32,33,34] []) (.cond 35 (.seq (.dr (.ops r8 false) [3,26,27,28,35] []) .ret) .skip)))) (.dr (.ops r9 false) [35,36] []))))
def c:AL:=(.seq (.dr (.ops r0 false) [0,2] []) (.seq (.dr (.ops r1 false) [6,7,8] []) (.seq (.seq (.dr (.ops r2 false) [9,10,11,12,13,14,15,16,17,18,19,20,21,22,23] []) (.cond 24 (.seq (.dr (.ops r3 false) [1,3,24] []) .ret) .skip)) (.seq (.seq (.dr (.ops r4 false) [1,24,25] []) (.block 0 (.loop l1))) (.seq (.dr (.ops CH false) [3,26,27,28,29] []) .ret)))))
end J4
def J4:AFn:=⟨1,J4.c,[.tmp 2],false⟩
namespace HA
def r0:List AI:=[o 2 (.mov (.c .nil))]
def r1:List AI:=[m 5 0,o 6 (.mk 131006 3 56 [(.bool false),.nil,.nil] 5 5),m 3 6]
def r2:List AI:=[m 7 3,o 8 (.len 7),o 9 (.mov (k 0))]
def r3:List AI:=[o 10 (.bin .lss 9 8)]
def r4:List AI:=[m 11 9,m 4 11]
def r5:List AI:=[m 12 3,m 13 4,o 14 (.call 96 [(k 0)]),o 15 (.iadr none 3 12 13),n (.st 3 15 14)]
def r6:List AI:=[o 16 (.bin .add 9 (k 1)),m 9 16]
def r7:List AI:=[m 17 3,m 2 17]
def l1:AL:=(.seq (.ops r3 false) (.seq (.cond 10 .skip (.exit 0)) (.seq (.block 1 (.seq (.dr (.ops r4 false) [10,11] []) (.dr (.ops r5 false) [4,12,13,14,15] []))) (.dr (.ops r6 false) [16] []))))
def c:AL:=(.seq (.dr (.ops r0 false) [2] []) (.seq (.dr (.ops r1 false) [0,5,6] []) (.seq (.seq (.dr (.ops r2 false) [7] []) (.block 0 (.loop l1))) (.seq (.dr (.ops r7 false) [3,8,9,10,17] []) .ret))))
end HA
def HA:AFn:=⟨1,HA.c,[.tmp 2],false⟩
namespace J6
def r0:List AI:=[o 4 (.alloc 4 [(.bool false),.nil,.nil])]
def r1:List AI:=[o 8 (.call 96 [(k 0)]),o 5 (.alloc 5 [(.bool false),.nil,.nil]),n (.st 3 5 8)]
def r2:List AI:=[m 9 0,o 10 (.len 9),o 11 (.mov (k 0))]
def r3:List AI:=[o 12 (.bin .lss 11 10)]
def r4:List AI:=[m 13 11,o 14 (.iadr none 3 9 11),o 15 (.ld true 3 14),o 7 (.alloc 7 [(.bool false),.nil,.nil]),m 6 13,n (.st 3 7 15)]
def r5:List AI:=[o 16 (.ld true 3 7),o 17 (.call 97 [16]),o 18 (.bin .neq 17 (k 0)),m 19 18,g 20 19 true (.mov 1),g 21 19 true (.mov 6),g 22 19 true (.iadr none 3 20 21),
 g 23 19 true (.ld true 3 22),g 24 19 true (.call 97 [23]),g 25 19 true (.bin .neq 24 (k 0)),o 26 (.pick 19 25 (.c (.bool false)))]
def r6:List AI:=[o 27 (.ld true 3 5),o 28 (.ld true 3 7),m 29 1,m 30 6,o 31 (.iadr none 3 29 30),o 32 (.ld true 3 31),o 33 (.call 99 [28,32]),o 34 (.call 98 [27,33]),
 n (.st 3 5 34)]
def r7:List AI:=[o 35 (.bin .add 11 (k 1)),m 11 35]
def r8:List AI:=[o 36 (.ld true 3 5),n (.st 3 4 36)]
def l1:AL:=(.seq (.ops r3 false) (.seq (.cond 12 .skip (.exit 0)) (.seq (.block 1 (.seq (.dr (.ops r4 false) [12,13,14,15] []) (.seq (.dr (.ops r5 false) [16,17,18,19,20,21,22,23,24,25] []) (.cond 26 (.dr (.ops r6 true) [6,7,26,27,28,29,30,31,32,33,34] []) .skip)))) (.dr (.ops r7 false) [6,7,26,35] []))))
def c:AL:=(.seq (.ops r0 false) (.seq (.dr (.ops r1 false) [8] []) (.seq (.seq (.dr (.ops r2 false) [0] []) (.block 0 (.loop l1))) (.seq (.dr (.ops r8 false) [1,5,9,10,11,12,36] []) .ret))))
end J6
def J6:AFn:=⟨2,J6.c,[.cell 4 true 3],false⟩
namespace J3
def r0:List AI:=[o 3 (.box 133003 0),o 6 (.mov (.c .nil)),o 7 (.mov (.c .nil)),o 8 (.mov (k 0))]
def r1:List AI:=[o 18 (.ld true 6 3),o 19 (.call 130 [18]),o 20 (.un .not 19)]
def r2:List AI:=[o 6 (.mov (.c .nil)),o 7 (.mov (.c .nil)),o 8 (.mov (k 2))]
def r3:List AI:=[m 21 1,o 22 (.len 21),o 23 (.fadr 3 0),o 24 (.ld false 1 23),o 25 (.len 24),o 26 (.bin .neq 22 25)]
def r4:List AI:=[o 6 (.mov (.c .nil)),o 7 (.mov (.c .nil)),o 8 (.mov (k 1))]
def r5:List AI:=[m 27 2,o 28 (.len 27),o 29 (.bin .gtr 28 (k 4096))]
def r6:List AI:=[o 6 (.mov (.c .nil)),o 7 (.mov (.c .nil)),o 8 (.mov (k 4))]
def r7:List AI:=[m 30 1,o 31 (.len 30),o 32 (.mk 133032 3 56 [(.bool false),.nil,.nil] 31 31),m 9 32]
def r8:List AI:=[m 33 1,o 34 (.len 33),o 35 (.mov (k 0))]
def r9:List AI:=[o 36 (.bin .lss 35 34)]
def CH:List AI:=[m 37 35,o 38 (.iadr none 3 33 35),o 39 (.ld true 3 38),o 11 (.alloc 133011 [(.bool false),.nil,.nil]),m 10 37,n (.st 3 11 39)]
def CM:List AI:=[m 40 9,m 41 10,o 42 (.ld true 3 11),o 43 (.call 95 [42]),o 44 (.iadr none 3 40 41),n (.st 3 44 43)]
def r12:List AI:=[o 45 (.bin .add 35 (k 1)),m 35 45]
def C1:List AI:=[m 46 2,o 47 (.len 46),o 48 (.mk 133048 3 56 [(.bool false),.nil,.nil] (k 0) 47),m 12 48]
def r14:List AI:=[m 49 2,o 50 (.len 49),o 51 (.mov (k 0))]
def r15:List AI:=[o 52 (.bin .lss 51 50)]
def r16:List AI:=[o 53 (.iadr none 3 49 51),o 54 (.ld true 3 53),o 14 (.alloc 133014 [(.bool false),.nil,.nil]),n (.st 3 14 54)]
def EU:List AI:=[m 55 12,o 56 (.fadr 3 2),o 57 (.ld false 1 56),m 58 9,o 59 (.call 132 [57,58]),o 60 (.fadr 3 3),o 61 (.ld true 3 60),o 62 (.ld true 3 14),
 o 63 (.call 99 [61,62]),o 64 (.call 98 [59,63]),o 65 (.bslice 133065 3 [64]),o 66 (.app 133066 3 56 55 65),m 12 66]
def r18:List AI:=[m 67 9,o 68 (.len 67),o 69 (.mk 133069 3 56 [(.bool false),.nil,.nil] 68 68),m 15 69]
def r19:List AI:=[o 70 (.fadr 3 0),o 71 (.ld false 1 70),o 72 (.len 71),o 73 (.mov (k 0))]
def r20:List AI:=[o 74 (.bin .lss 73 72)]
def r21:List AI:=[m 75 73,o 76 (.iadr none 1 71 73),o 77 (.ld false 1 76),m 16 75,m 17 77]
def r22:List AI:=[m 78 15,m 79 16,m 80 17,m 81 9,o 82 (.call 132 [80,81]),o 83 (.fadr 3 1),o 84 (.ld false 1 83),m 85 16,o 86 (.iadr none 3 84 85),o 87 (.ld true 3 86),
 o 88 (.ld true 3 14),o 89 (.call 99 [87,88]),o 90 (.call 98 [82,89]),o 91 (.iadr none 3 78 79),n (.st 3 91 90)]
def r23:List AI:=[o 92 (.bin .add 73 (k 1)),m 73 92]
def KI:List AI:=[m 93 15,m 9 93]
def NE:List AI:=[o 94 (.bin .add 51 (k 1)),m 51 94]
def OS:List AI:=[m 95 12,m 96 9,m 6 95,m 7 96,o 8 (.mov (k 0))]
def l1:AL:=(.seq (.ops r9 false) (.seq (.cond 36 .skip (.exit 0)) (.seq (.block 1 (.seq (.dr (.ops CH false) [36,37,38,39] []) (.dr (.ops CM false) [10,11,40,41,42,43,44] []))) (.dr (.ops r12 false) [45] []))))
def l3:AL:=(.seq (.ops r20 false) (.seq (.cond 74 .skip (.exit 4)) (.seq (.block 5 (.seq (.dr (.ops r21 false) [74,75,76,77] []) (.dr (.ops r22 true) [16,17,78,79,80,81,82,83,84,85,86,87,88,89,90,91] []))) (.dr (.ops r23 false) [92] []))))
def l2:AL:=(.seq (.ops r15 false) (.seq (.cond 52 .skip (.exit 2)) (.seq (.block 3 (.seq (.dr (.ops r16 false) [52,53,54] []) (.seq (.dr (.ops EU true) [55,56,57,58,59,60,61,62,63,64,65,66] []) (.seq (.dr (.ops r18 false) [67,68,69] []) (.seq (.seq (.dr (.ops r19 false) [70] []) (.block 4 (.loop l3))) (.dr (.ops KI false) [14,15,71,72,73,74,93] [])))))) (.dr (.ops NE false) [94] []))))
def c:AL:=(.seq (.dr (.ops r0 false) [0,6,7,8] []) (.seq (.seq (.dr (.ops r1 false) [18,19] []) (.cond 20 (.seq (.dr (.ops r2 false) [1,2,3,20] []) .ret) .skip)) (.seq (.seq (.dr (.ops r3 false) [20,21,22,23,24,25] []) (.cond 26 (.seq (.dr (.ops r4 false) [1,2,3,26] []) .ret) .skip)) (.seq (.seq (.dr (.ops r5 false) [26,27,28] []) (.cond 29 (.seq (.dr (.ops r6 false) [1,2,3,29] []) .ret) .skip)) (.seq (.dr (.ops r7 false) [29,30,31,32] []) (.seq (.seq (.dr (.ops r8 false) [1] []) (.block 0 (.loop l1))) (.seq (.dr (.ops C1 false) [33,34,35,36,46,47,48] []) (.seq (.seq (.dr (.ops r14 false) [2] []) (.block 2 (.loop l2))) (.seq (.dr (.ops OS false) [3,9,12,49,50,51,52,95,96] []) .ret)))))))))
end J3
def J3:AFn:=⟨3,J3.c,[.tmp 6,.tmp 7,.tmp 8],false⟩
namespace J2
def r0:List AI:=[o 2 (.box 2 0),o 4 (.mov (.c .nil)),o 5 (.mov (k 0))]
def r1:List AI:=[o 10 (.ld true 6 2),o 11 (.call 130 [10]),o 12 (.un .not 11)]
def r2:List AI:=[o 4 (.mov (.c .nil)),o 5 (.mov (k 2))]
def r3:List AI:=[m 13 1,o 14 (.bin .lss 13 (k 0))]
def r4:List AI:=[o 4 (.mov (.c .nil)),o 5 (.mov (k 1))]
def r5:List AI:=[m 15 1,o 16 (.bin .gtr 15 (k 4096))]
def r6:List AI:=[o 4 (.mov (.c .nil)),o 5 (.mov (k 4))]
def r7:List AI:=[m 17 1,o 18 (.calli 131 [17]),m 6 18]
def r8:List AI:=[m 19 1,o 20 (.bin .gtr 19 (k 0))]
def r9:List AI:=[m 21 6,o 22 (.call 96 [(k 1)]),o 23 (.iadr none 3 21 (k 0)),n (.st 3 23 22)]
def CH:List AI:=[o 25 (.ld true 6 2),o 26 (.fadr 2 0),o 27 (.ld false 1 26),o 28 (.len 27),o 29 (.call 131 [28]),m 30 6,o 31 (.call 133 [25,29,30]),m 24 31,
 o 32 (.ext 24 0),o 33 (.ext 24 1),o 34 (.ext 24 2),m 7 32,m 8 33,m 9 34]
def CM:List AI:=[m 35 7,m 36 9,m 4 35,m 5 36]
def c:AL:=(.seq (.dr (.ops r0 false) [0,4,5] []) (.seq (.seq (.dr (.ops r1 false) [10,11] []) (.cond 12 (.seq (.dr (.ops r2 false) [1,2,12] []) .ret) .skip)) (.seq (.seq (.dr (.ops r3 false) [12,13] []) (.cond 14 (.seq (.dr (.ops r4 false) [1,2,14] []) .ret) .skip)) (.seq (.seq (.dr (.ops r5 false) [14,15] []) (.cond 16 (.seq (.dr (.ops r6 false) [1,2,16] []) .ret) .skip)) (.seq (.dr (.ops r7 false) [16,17,18] []) (.seq (.seq (.dr (.ops r8 false) [1,19] []) (.cond 20 (.dr (.ops r9 false) [20,21,22,23] []) .skip)) (.seq (.dr (.ops CH true) [2,6,8,20,24,25,26,27,28,29,30,31,32,33,34] []) (.seq (.dr (.ops CM false) [7,9,35,36] []) .ret))))))))
end J2
def J2:AFn:=⟨2,J2.c,[.tmp 4,.tmp 5],false⟩
namespace LU
def r0:List AI:=[o 1 (.box 1 0),o 2 (.mov (.c (.bool false)))]
def r1:List AI:=[o 5 (.fadr 1 0),o 6 (.ld false 1 5),o 7 (.len 6),m 3 7]
def r2:List AI:=[m 8 3,o 9 (.bin .gtr 8 (k 64)),m 10 9,g 11 10 false (.fadr 1 1),g 12 10 false (.ld false 1 11),g 13 10 false (.len 12),g 14 10 false (.mov 3),
 g 15 10 false (.bin .neq 13 14),o 16 (.pick 10 (.c (.bool true)) 15),m 17 16,g 18 17 false (.fadr 1 2),g 19 17 false (.ld false 1 18),
 g 20 17 false (.len 19),g 21 17 false (.mov 3),g 22 17 false (.bin .neq 20 21),o 23 (.pick 17 (.c (.bool true)) 22)]
def r3:List AI:=[o 2 (.mov (.c (.bool false)))]
def r4:List AI:=[o 4 (.mov (k 0))]
def r5:List AI:=[m 24 4,m 25 3,o 26 (.bin .lss 24 25)]
def r7:List AI:=[o 29 (.fadr 1 0),o 30 (.ld false 1 29),m 31 4,o 32 (.iadr none 1 30 31),o 33 (.ld false 1 32),o 34 (.len 33),m 35 3,o 36 (.bin .neq 34 35)]
def r8:List AI:=[o 2 (.mov (.c (.bool false)))]
def r6:List AI:=[m 27 4,o 28 (.bin .add 27 (k 1)),m 4 28]
def r9:List AI:=[o 2 (.mov (.c (.bool true)))]
def l1:AL:=(.seq (.seq (.dr (.ops r5 false) [24,25] []) (.cond 26 .skip (.exit 0))) (.seq (.block 1 (.seq (.dr (.ops r7 false) [26,29,30,31,32,33,34,35] []) (.cond 36 (.seq (.dr (.ops r8 false) [1,3,4,36] []) .ret) .skip))) (.dr (.ops r6 false) [27,28,36] [])))
def c:AL:=(.seq (.dr (.ops r0 false) [0,2] []) (.seq (.dr (.ops r1 false) [5,6,7] []) (.seq (.seq (.dr (.ops r2 false) [8,9,10,11,12,13,14,15,16,17,18,19,20,21,22] []) (.cond 23 (.seq (.dr (.ops r3 false) [1,3,23] []) .ret) .skip)) (.seq (.seq (.dr (.ops r4 false) [23] []) (.block 0 (.loop l1))) (.seq (.dr (.ops r9 false) [1,3,4,26] []) .ret)))))
end LU
def LU:AFn:=⟨1,LU.c,[.tmp 2],false⟩
namespace LS
def r0:List AI:=[o 4 (.alloc 4 [(.bool false),.nil,.nil])]
def r1:List AI:=[o 7 (.call 124 [(k 0)]),o 5 (.alloc 5 [(.bool false),.nil,.nil]),n (.st 3 5 7)]
def r2:List AI:=[o 6 (.mov (k 0))]
def r3:List AI:=[m 8 6,m 9 0,o 10 (.len 9),o 11 (.bin .lss 8 10)]
def r5:List AI:=[o 14 (.ld true 3 5),m 15 0,m 16 6,o 17 (.iadr none 3 15 16),o 18 (.ld true 3 17),m 19 1,m 20 6,o 21 (.iadr none 3 19 20),o 22 (.ld true 3 21),
 o 23 (.call 128 [18,22]),o 24 (.call 126 [14,23]),n (.st 3 5 24)]
def r4:List AI:=[m 12 6,o 13 (.bin .add 12 (k 1)),m 6 13]
def r6:List AI:=[o 25 (.ld true 3 5),n (.st 3 4 25)]
def l1:AL:=(.seq (.seq (.dr (.ops r3 false) [8,9,10] []) (.cond 11 .skip (.exit 0))) (.seq (.block 1 (.dr (.ops r5 true) [11,14,15,16,17,18,19,20,21,22,23,24] [])) (.dr (.ops r4 false) [12,13] [])))
def c:AL:=(.seq (.ops r0 false) (.seq (.dr (.ops r1 false) [7] []) (.seq (.seq (.ops r2 false) (.block 0 (.loop l1))) (.seq (.dr (.ops r6 false) [0,1,5,6,11,25] []) .ret))))
end LS
def LS:AFn:=⟨2,LS.c,[.cell 4 true 3],false⟩
namespace LV
def r0:List AI:=[o 4 (.mov (.c .nil))]
def r1:List AI:=[o 5 (.vrow 138005 3)]
def r2:List AI:=[o 6 (.mov (k 0))]
def r3:List AI:=[m 7 6,m 8 0,o 9 (.len 8),o 10 (.bin .lss 7 9)]
def r5:List AI:=[m 13 5,m 14 0,m 15 6,o 16 (.iadr none 1 14 15),o 17 (.ld false 1 16),m 18 1,o 19 (.call 137 [17,18]),o 20 (.bslice 138020 3 [19]),
 o 21 (.app 138021 3 56 13 20),m 5 21]
def r4:List AI:=[m 11 6,o 12 (.bin .add 11 (k 1)),m 6 12]
def r6:List AI:=[m 22 5,m 4 22]
def l1:AL:=(.seq (.seq (.dr (.ops r3 false) [7,8,9] []) (.cond 10 .skip (.exit 0))) (.seq (.block 1 (.dr (.ops r5 false) [10,13,14,15,16,17,18,19,20,21] [])) (.dr (.ops r4 false) [11,12] [])))
def c:AL:=(.seq (.dr (.ops r0 false) [4] []) (.seq (.ops r1 false) (.seq (.seq (.ops r2 false) (.block 0 (.loop l1))) (.seq (.dr (.ops r6 false) [0,1,5,6,10,22] []) .ret))))
end LV
def LV:AFn:=⟨2,LV.c,[.tmp 4],false⟩
structure SysGLib (L:Lib):Prop extends RatGLib L,RefGLib L where
 J4:L 130=some F.J4
 HA:L 131=some F.HA
 J6:L 132=some F.J6
 J3:L 133=some F.J3
 J2:L 134=some F.J2
 LU:L 136=some F.LU
 LS:L 137=some F.LS
 LV:L 138=some F.LV
end Go.Eng.F

namespace Go.Eng.F
open C
structure NetLib (L:Lib):Prop extends FixedLib L where
end Go.Eng.F

namespace Go.Eng.F
open C
namespace J8
def r0:List AI:=[o 2 (.alloc 145002 [.nil,.nil,.nil,(.bool false),.nil,.nil])]
def r1:List AI:=[m 5 0,o 6 (.mk 145006 1 24 [.nil] 5 5),m 7 0,⟨some 8,.callr 145008 131 [7],none,[145006,145003]⟩,m 9 0,
 ⟨some 10,.callr 145010 131 [9],none,[145006,145003]⟩,⟨some 11,.call 96 [(k 0)],none,[145006,145003]⟩,
 o 12 (.build [.nil,.nil,.nil,(.bool false),.nil,.nil] [(0,1,6),(1,1,8),(2,1,10),(3,3,11)]),
 o 3 (.alloc 145003 [.nil,.nil,.nil,(.bool false),.nil,.nil]),n (.st 6 3 12)]
def r2:List AI:=[o 13 (.fadr 3 0),o 14 (.ld false 1 13),o 15 (.len 14),o 16 (.mov (k 0))]
def r3:List AI:=[o 17 (.bin .lss 16 15)]
def r4:List AI:=[m 18 16,m 4 18]
def r5:List AI:=[o 19 (.fadr 3 0),⟨some 20,.ld false 1 19,none,[145023]⟩,m 21 4,m 22 0,o 23 (.callr 145023 131 [22]),o 24 (.iadr none 1 20 21),n (.st 1 24 23)]
def r6:List AI:=[o 25 (.bin .add 16 (k 1)),m 16 25]
def r7:List AI:=[o 26 (.ld true 6 3),n (.st 6 2 26)]
def l1:AL:=(.seq (.ops r3 false) (.seq (.cond 17 .skip (.exit 0)) (.seq (.block 1 (.seq (.dr (.ops r4 false) [17,18] []) (.dr (.ops r5 true) [4,19,20,21,22,23,24] []))) (.dr (.ops r6 false) [25] []))))
def c:AL:=(.seq (.ops r0 false) (.seq (.dr (.ops r1 true) [5,6,7,8,9,10,11,12] []) (.seq (.seq (.dr (.ops r2 false) [13,14] []) (.block 0 (.loop l1))) (.seq (.dr (.ops r7 false) [0,3,15,16,17,26] []) .ret))))
end J8
def J8:AFn:=⟨1,J8.c,[.cell 2 true 6],false⟩
structure LinGLib (L:Lib):Prop extends SysGLib L,NetLib L where
 J8:L 145=some F.J8
end Go.Eng.F

namespace Go.Eng.F
open C
namespace KR
def r0:List AI:=[o 1 (.box 1 0),o 2 (.alloc 2 [(.bool false),.nil,.nil])]
def r1:List AI:=[o 3 (.fadr 1 0),o 4 (.fadr 3 0),o 5 (.ld false 1 4),o 6 (.un .not 5),o 7 (.fadr 1 0),o 8 (.fadr 7 1),o 9 (.ld false 1 8),
 o 10 (.build [(.bool false),.nil] [(0,1,6),(1,1,9)]),o 11 (.fadr 1 2),o 12 (.ld false 1 11),
 o 13 (.build [(.bool false),.nil,.nil] [(0,2,10),(2,1,12)]),n (.st 3 2 13)]
def c:AL:=(.seq (.dr (.ops r0 false) [0] []) (.seq (.dr (.ops r1 false) [1,3,4,5,6,7,8,9,10,11,12,13] []) .ret))
end KR
def KR:AFn:=⟨1,KR.c,[.cell 2 true 3],false⟩
namespace KP
def r0:List AI:=[o 2 (.box 2 0),o 3 (.box 3 1),o 4 (.alloc 4 [(.bool false),.nil,.nil])]
def r1:List AI:=[o 5 (.ld true 3 2),o 6 (.ld true 3 3),o 7 (.callq 149 [6]),o 8 (.call 98 [5,7]),n (.st 3 4 8)]
def c:AL:=(.seq (.dr (.ops r0 false) [0,1] []) (.seq (.dr (.ops r1 true) [2,3,5,6,7,8] []) .ret))
end KP
def KP:AFn:=⟨2,KP.c,[.cell 4 true 3],false⟩
namespace KL
def r0:List AI:=[o 4 (.alloc 4 [(.bool false),.nil,.nil])]
def r1:List AI:=[m 5 1,o 6 (.bin .eql 5 (k 0))]
def r2:List AI:=[o 7 (.call 96 [(k 0)]),n (.st 3 4 7)]
def r3:List AI:=[m 8 0,o 9 (.call 85 [8]),m 10 1,o 11 (.call 85 [10]),o 12 (.calli 93 [9,11]),o 13 (.call 94 [12]),n (.st 3 4 13)]
def c:AL:=(.seq (.ops r0 false) (.seq (.seq (.dr (.ops r1 false) [5] []) (.cond 6 (.seq (.dr (.ops r2 false) [0,1,6,7] []) .ret) .skip)) (.seq (.dr (.ops r3 false) [0,1,6,8,9,10,11,12,13] []) .ret)))
end KL
def KL:AFn:=⟨2,KL.c,[.cell 4 true 3],false⟩
structure RatHLib (L:Lib):Prop extends RatGLib L where
 KR:L 149=some F.KR
 KP:L 150=some F.KP
 KL:L 151=some F.KL
end Go.Eng.F

namespace Go.Eng.F
open C
namespace E5
def r0:List AI:=[o 2 (.mov (.c .nil))]
def r1:List AI:=[m 4 0,o 5 (.len 4),m 3 5]
def r2:List AI:=[m 6 3,o 7 (.bin .gtr 6 (k 0)),m 8 7,g 9 8 true (.mov 0),g 10 8 true (.mov 3),g 11 8 true (.bin .sub 10 (k 1)),g 12 8 true (.iadr none 3 9 11),
 g 13 8 true (.ld true 3 12),g 14 8 true (.call 97 [13]),g 15 8 true (.bin .eql 14 (k 0)),o 16 (.pick 8 15 (.c (.bool false)))]
def r3:List AI:=[m 17 3,o 18 (.bin .sub 17 (k 1)),m 3 18]
def r4:List AI:=[m 19 0,m 20 3,o 21 (.slc 3 19 none (some 20)),m 2 21]
def l1:AL:=(.seq (.seq (.dr (.ops r2 false) [6,7,8,9,10,11,12,13,14,15] []) (.cond 16 .skip (.exit 0))) (.block 1 (.dr (.ops r3 false) [16,17,18] [])))
def c:AL:=(.seq (.dr (.ops r0 false) [2] []) (.seq (.dr (.ops r1 false) [4,5] []) (.seq (.block 0 (.loop l1)) (.seq (.dr (.ops r4 false) [0,3,16,19,20,21] []) .ret))))
end E5
def E5:AFn:=⟨1,E5.c,[.tmp 2],false⟩
namespace KD
def r0:List AI:=[o 2 (.mov (.c .nil))]
def r1:List AI:=[m 5 0,o 6 (.calli 169 [5]),o 7 (.len 6),o 8 (.mk 170008 3 56 [(.bool false),.nil,.nil] 7 7),m 3 8]
def r2:List AI:=[m 9 3,o 10 (.len 9),o 11 (.mov (k 0))]
def r3:List AI:=[o 12 (.bin .lss 11 10)]
def r4:List AI:=[m 13 11,m 4 13]
def r5:List AI:=[m 14 3,m 15 4,m 16 0,m 17 4,o 18 (.iadr none 3 16 17),o 19 (.ld true 3 18),o 20 (.call 95 [19]),o 21 (.iadr none 3 14 15),n (.st 3 21 20)]
def r6:List AI:=[o 22 (.bin .add 11 (k 1)),m 11 22]
def r7:List AI:=[m 23 3,m 2 23]
def l1:AL:=(.seq (.ops r3 false) (.seq (.cond 12 .skip (.exit 0)) (.seq (.block 1 (.seq (.dr (.ops r4 false) [12,13] []) (.dr (.ops r5 false) [4,14,15,16,17,18,19,20,21] []))) (.dr (.ops r6 false) [22] []))))
def c:AL:=(.seq (.dr (.ops r0 false) [2] []) (.seq (.dr (.ops r1 false) [5,6,7,8] []) (.seq (.seq (.dr (.ops r2 false) [9] []) (.block 0 (.loop l1))) (.seq (.dr (.ops r7 false) [0,3,10,11,12,23] []) .ret))))
end KD
def KD:AFn:=⟨1,KD.c,[.tmp 2],false⟩
structure PolyGLib (L:Lib):Prop extends RatGLib L where
 E5:L 169=some F.E5
 KD:L 170=some F.KD
end Go.Eng.F

namespace Go.Eng.F
open C
namespace LG
def r0:List AI:=[o 1 (.box 1 0),o 2 (.alloc 2 [(.bool false),.nil,.nil])]
def r1:List AI:=[o 3 (.ld true 3 1),o 4 (.call 123 [3]),n (.st 3 1 4)]
def r2:List AI:=[o 5 (.fadr 1 0),o 6 (.ld true 2 5),o 7 (.call 114 [6]),o 8 (.fadr 1 0),n (.st 2 8 7)]
def r3:List AI:=[o 9 (.ld true 3 1),n (.st 3 2 9)]
def c:AL:=(.seq (.dr (.ops r0 false) [0] []) (.seq (.dr (.ops r1 false) [3,4] []) (.seq (.dr (.ops r2 false) [5,6,7,8] []) (.seq (.dr (.ops r3 false) [1,9] []) .ret))))
end LG
def LG:AFn:=⟨1,LG.c,[.cell 2 true 3],false⟩
namespace LK
def r0:List AI:=[o 2 (.box 2 0),o 3 (.box 3 1),o 4 (.alloc 4 [(.bool false),.nil,.nil])]
def r1:List AI:=[o 5 (.ld true 3 2),o 6 (.ld true 3 3),o 7 (.call 152 [6]),o 8 (.call 126 [5,7]),n (.st 3 4 8)]
def c:AL:=(.seq (.dr (.ops r0 false) [0,1] []) (.seq (.dr (.ops r1 true) [2,3,5,6,7,8] []) .ret))
end LK
def LK:AFn:=⟨2,LK.c,[.cell 4 true 3],false⟩
namespace LD
def r0:List AI:=[o 2 (.box 2 0),o 3 (.box 3 1),o 4 (.alloc 4 [(.bool false),.nil,.nil]),o 5 (.mov (k 0))]
def r1:List AI:=[o 11 (.ld true 3 2),o 12 (.call 122 [11]),m 10 12,o 13 (.ext 10 0),o 14 (.ext 10 1),o 6 (.alloc 6 [(.bool false),.nil]),
 o 7 (.alloc 7 [(.bool false),.nil]),n (.st 2 6 13),n (.st 2 7 14)]
def r2:List AI:=[o 16 (.ld true 3 3),o 17 (.call 122 [16]),m 15 17,o 18 (.ext 15 0),o 19 (.ext 15 1),o 8 (.alloc 8 [(.bool false),.nil]),
 o 9 (.alloc 9 [(.bool false),.nil]),n (.st 2 8 18),n (.st 2 9 19)]
def r3:List AI:=[o 20 (.ld true 2 8),o 21 (.call 113 [20]),o 22 (.bin .eql 21 (k 0))]
def r4:List AI:=[o 23 (.build [(.bool false),.nil,.nil] []),n (.st 3 4 23),o 5 (.mov (k 3))]
def r5:List AI:=[o 24 (.ld true 2 6),o 25 (.ld true 2 9),o 26 (.call 118 [24,25]),o 27 (.ld true 2 7),o 28 (.ld true 2 8),o 29 (.call 118 [27,28]),
 o 30 (.call 121 [26,29]),n (.st 3 4 30),o 5 (.mov (k 0))]
def c:AL:=(.seq (.dr (.ops r0 false) [0,1,5] []) (.seq (.dr (.ops r1 false) [2,10,11,12,13,14] []) (.seq (.dr (.ops r2 false) [3,15,16,17,18,19] []) (.seq (.seq (.dr (.ops r3 false) [20,21] []) (.cond 22 (.seq (.dr (.ops r4 false) [6,7,8,9,22,23] []) .ret) .skip)) (.seq (.dr (.ops r5 true) [6,7,8,9,22,24,25,26,27,28,29,30] []) .ret)))))
end LD
def LD:AFn:=⟨2,LD.c,[.cell 4 true 3,.tmp 5],false⟩
namespace LJ
def r0:List AI:=[o 1 (.box 1 0),o 2 (.mov (k 0))]
def r1:List AI:=[o 6 (.ld true 3 1),o 7 (.call 122 [6]),m 5 7,o 8 (.ext 5 0),o 9 (.ext 5 1),o 3 (.alloc 3 [(.bool false),.nil]),o 4 (.alloc 4 [(.bool false),.nil]),
 n (.st 2 3 8),n (.st 2 4 9)]
def r2:List AI:=[o 10 (.ld true 2 3),o 11 (.call 113 [10]),m 2 11]
def c:AL:=(.seq (.dr (.ops r0 false) [0,2] []) (.seq (.dr (.ops r1 false) [1,4,5,6,7,8,9] []) (.seq (.dr (.ops r2 false) [3,10,11] []) .ret)))
end LJ
def LJ:AFn:=⟨1,LJ.c,[.tmp 2],false⟩
structure RefHLib (L:Lib):Prop extends RefGLib L where
 LG:L 152=some F.LG
 LK:L 153=some F.LK
 LD:L 154=some F.LD
 LJ:L 155=some F.LJ
end Go.Eng.F

namespace Go.Eng.F
open C
structure R05GLib (L:Lib):Prop extends RefHLib L where
end Go.Eng.F

namespace Go.Eng.F
open C
namespace J7
def r0:List AI:=[o 4 (.mov (.c .nil))]
def r1:List AI:=[m 11 0,o 12 (.len 11),o 13 (.mk 188013 1 24 [.nil] 12 12),m 5 13]
def r2:List AI:=[m 14 0,o 15 (.len 14),o 16 (.mk 188016 3 56 [(.bool false),.nil,.nil] 15 15),m 6 16]
def r3:List AI:=[m 17 0,o 18 (.len 17),o 19 (.mov (k 0))]
def r4:List AI:=[o 20 (.bin .lss 19 18)]
def r5:List AI:=[m 21 19,m 7 21]
def r6:List AI:=[m 22 5,m 23 7,m 24 0,o 25 (.len 24),o 26 (.mk 188026 3 56 [(.bool false),.nil,.nil] 25 25),o 27 (.iadr none 1 22 23),n (.st 1 27 26)]
def r7:List AI:=[o 28 (.bin .add 19 (k 1)),m 19 28]
def r8:List AI:=[m 29 0,o 30 (.len 29),o 31 (.mov (k 0))]
def r9:List AI:=[o 32 (.bin .lss 31 30)]
def CH:List AI:=[m 33 31,m 8 33]
def CM:List AI:=[m 34 0,o 35 (.len 34),o 36 (.mov (k 0))]
def r12:List AI:=[o 37 (.bin .lss 36 35)]
def C1:List AI:=[m 38 36,m 9 38]
def r14:List AI:=[m 39 6,m 40 9,m 41 1,m 42 9,o 43 (.iadr none 1 41 42),o 44 (.ld false 1 43),m 45 8,o 46 (.iadr none 3 44 45),o 47 (.ld true 3 46),
 o 48 (.iadr none 3 39 40),n (.st 3 48 47)]
def r15:List AI:=[o 49 (.bin .add 36 (k 1)),m 36 49]
def r16:List AI:=[m 50 0,o 51 (.len 50),o 52 (.mov (k 0))]
def EU:List AI:=[o 53 (.bin .lss 52 51)]
def r18:List AI:=[m 54 52,m 10 54]
def r19:List AI:=[m 55 5,m 56 10,o 57 (.iadr none 1 55 56),o 58 (.ld false 1 57),m 59 8,m 60 0,m 61 10,o 62 (.iadr none 1 60 61),o 63 (.ld false 1 62),m 64 6,
 o 65 (.call 132 [63,64]),o 66 (.iadr none 3 58 59),n (.st 3 66 65)]
def r20:List AI:=[o 67 (.bin .add 52 (k 1)),m 52 67]
def r21:List AI:=[o 68 (.bin .add 31 (k 1)),m 31 68]
def r22:List AI:=[m 69 5,m 4 69]
def l1:AL:=(.seq (.ops r4 false) (.seq (.cond 20 .skip (.exit 0)) (.seq (.block 1 (.seq (.dr (.ops r5 false) [20,21] []) (.dr (.ops r6 false) [7,22,23,24,25,26,27] []))) (.dr (.ops r7 false) [28] []))))
def l3:AL:=(.seq (.ops r12 false) (.seq (.cond 37 .skip (.exit 4)) (.seq (.block 5 (.seq (.dr (.ops C1 false) [37,38] []) (.dr (.ops r14 false) [9,39,40,41,42,43,44,45,46,47,48] []))) (.dr (.ops r15 false) [49] []))))
def l4:AL:=(.seq (.ops EU false) (.seq (.cond 53 .skip (.exit 6)) (.seq (.block 7 (.seq (.dr (.ops r18 false) [53,54] []) (.dr (.ops r19 true) [10,55,56,57,58,59,60,61,62,63,64,65,66] []))) (.dr (.ops r20 false) [67] []))))
def l2:AL:=(.seq (.ops r9 false) (.seq (.cond 32 .skip (.exit 2)) (.seq (.block 3 (.seq (.dr (.ops CH false) [32,33] []) (.seq (.seq (.dr (.ops CM false) [34] []) (.block 4 (.loop l3))) (.seq (.dr (.ops r16 false) [35,36,37,50] []) (.block 6 (.loop l4)))))) (.dr (.ops r21 false) [8,51,52,53,68] []))))
def c:AL:=(.seq (.dr (.ops r0 false) [4] []) (.seq (.dr (.ops r1 false) [11,12,13] []) (.seq (.dr (.ops r2 false) [14,15,16] []) (.seq (.seq (.dr (.ops r3 false) [17] []) (.block 0 (.loop l1))) (.seq (.seq (.dr (.ops r8 false) [18,19,20,29] []) (.block 2 (.loop l2))) (.seq (.dr (.ops r22 false) [0,1,5,6,30,31,32,69] []) .ret))))))
end J7
def J7:AFn:=⟨2,J7.c,[.tmp 4],false⟩
namespace J5
def r0:List AI:=[o 1 (.box 1 0),o 2 (.alloc 2 [.nil,.nil]),o 3 (.mov (k 0))]
def r1:List AI:=[o 16 (.ld true 6 1),o 17 (.call 130 [16]),o 18 (.un .not 17)]
def r2:List AI:=[o 19 (.build [.nil,.nil] []),n (.st 2 2 19),o 3 (.mov (k 2))]
def r3:List AI:=[o 20 (.fadr 1 0),o 21 (.ld false 1 20),o 22 (.len 21),m 4 22]
def r4:List AI:=[m 23 4,o 24 (.bin .gtr 23 (k 16))]
def r5:List AI:=[o 25 (.build [.nil,.nil] []),n (.st 2 2 25),o 3 (.mov (k 12))]
def r6:List AI:=[o 26 (.call 96 [(k 1)]),o 27 (.bslice 27 3 [26]),m 5 27]
def r7:List AI:=[o 28 (.call 96 [(k 0)]),o 29 (.bslice 29 3 [28]),m 6 29]
def r8:List AI:=[m 30 4,o 31 (.calli 145 [30]),o 32 (.fld 31 0 1 false),m 7 32]
def r9:List AI:=[m 33 4,o 34 (.mov (k 0))]
def CH:List AI:=[o 35 (.bin .lss 34 33)]
def CM:List AI:=[m 36 34,m 8 36]
def r12:List AI:=[m 37 7,m 38 8,o 39 (.iadr none 1 37 38),o 40 (.ld false 1 39),m 41 8,o 42 (.call 96 [(k 1)]),o 43 (.iadr none 3 40 41),n (.st 3 43 42)]
def C1:List AI:=[o 44 (.bin .add 34 (k 1)),m 34 44]
def r14:List AI:=[o 9 (.mov (k 1))]
def r15:List AI:=[m 45 9,m 46 4,o 47 (.bin .leq 45 46)]
def EU:List AI:=[m 50 4,o 51 (.mk 51 3 56 [(.bool false),.nil,.nil] 50 50),m 10 51]
def r18:List AI:=[m 52 4,o 53 (.mov (k 0))]
def r19:List AI:=[o 54 (.bin .lss 53 52)]
def r20:List AI:=[m 55 53,m 11 55]
def r21:List AI:=[m 56 10,m 57 11,m 58 7,m 59 11,o 60 (.iadr none 1 58 59),o 61 (.ld false 1 60),o 62 (.fadr 1 1),o 63 (.ld false 1 62),o 64 (.call 132 [61,63]),
 o 65 (.iadr none 3 56 57),n (.st 3 65 64)]
def r22:List AI:=[o 66 (.bin .add 53 (k 1)),m 53 66]
def r23:List AI:=[m 67 6,o 68 (.fadr 1 2),o 69 (.ld false 1 68),m 70 10,o 71 (.call 132 [69,70]),o 72 (.bslice 72 3 [71]),o 73 (.app 73 3 56 67 72),m 6 73]
def KI:List AI:=[o 74 (.fadr 1 0),o 75 (.ld false 1 74),m 76 7,o 77 (.calli 188 [75,76]),m 7 77]
def NE:List AI:=[o 78 (.call 96 [(k 0)]),o 12 (.alloc 12 [(.bool false),.nil,.nil]),n (.st 3 12 78)]
def OS:List AI:=[m 79 4,o 80 (.mov (k 0))]
def QX:List AI:=[o 81 (.bin .lss 80 79)]
def QY:List AI:=[m 82 80,m 13 82]
def QZ:List AI:=[o 83 (.ld true 3 12),m 84 7,m 85 13,o 86 (.iadr none 1 84 85),o 87 (.ld false 1 86),m 88 13,o 89 (.iadr none 3 87 88),o 90 (.ld true 3 89),
 o 91 (.call 98 [83,90]),n (.st 3 12 91)]
def r30:List AI:=[o 92 (.bin .add 80 (k 1)),m 80 92]
def r31:List AI:=[⟨some 93,.ld true 3 12,none,[14]⟩,m 94 9,⟨some 95,.call 151 [(k (-1)),94],none,[14]⟩,⟨some 96,.call 99 [93,95],none,[14]⟩,
 o 14 (.alloc 14 [(.bool false),.nil,.nil]),n (.st 3 14 96)]
def cI:List AI:=[m 97 4,o 98 (.mov (k 0))]
def cJ:List AI:=[o 99 (.bin .lss 98 97)]
def cK:List AI:=[m 100 98,m 15 100]
def cL:List AI:=[m 101 7,m 102 15,o 103 (.iadr none 1 101 102),o 104 (.ld false 1 103),m 105 15,m 106 7,m 107 15,o 108 (.iadr none 1 106 107),o 109 (.ld false 1 108),
 m 110 15,o 111 (.iadr none 3 109 110),o 112 (.ld true 3 111),o 113 (.ld true 3 14),o 114 (.call 98 [112,113]),o 115 (.iadr none 3 104 105),
 n (.st 3 115 114)]
def cM:List AI:=[o 116 (.bin .add 98 (k 1)),m 98 116]
def cN:List AI:=[m 117 5,o 118 (.ld true 3 14),o 119 (.bslice 119 3 [118]),o 120 (.app 120 3 56 117 119),m 5 120]
def r16:List AI:=[m 48 9,o 49 (.bin .add 48 (k 1)),m 9 49]
def cO:List AI:=[m 121 6,m 122 5,o 123 (.fadr 1 3),o 124 (.ld true 3 123),o 125 (.call 190 [122,124]),o 126 (.call 191 [121,125]),m 127 5,o 128 (.call 170 [127]),
 o 129 (.build [.nil,.nil] [(0,1,126),(1,1,128)]),n (.st 2 2 129),o 3 (.mov (k 0))]
def l1:AL:=(.seq (.ops CH false) (.seq (.cond 35 .skip (.exit 0)) (.seq (.block 1 (.seq (.dr (.ops CM false) [35,36] []) (.dr (.ops r12 true) [8,37,38,39,40,41,42,43] []))) (.dr (.ops C1 false) [44] []))))
def l3:AL:=(.seq (.ops r19 false) (.seq (.cond 54 .skip (.exit 4)) (.seq (.block 5 (.seq (.dr (.ops r20 false) [54,55] []) (.dr (.ops r21 true) [11,56,57,58,59,60,61,62,63,64,65] []))) (.dr (.ops r22 false) [66] []))))
def l4:AL:=(.seq (.ops QX false) (.seq (.cond 81 .skip (.exit 6)) (.seq (.block 7 (.seq (.dr (.ops QY false) [81,82] []) (.dr (.ops QZ true) [13,83,84,85,86,87,88,89,90,91] []))) (.dr (.ops r30 false) [92] []))))
def l5:AL:=(.seq (.ops cJ false) (.seq (.cond 99 .skip (.exit 8)) (.seq (.block 9 (.seq (.dr (.ops cK false) [99,100] []) (.dr (.ops cL true) [15,101,102,103,104,105,106,107,108,109,110,111,112,113,114,115] []))) (.dr (.ops cM false) [116] []))))
def l2:AL:=(.seq (.seq (.dr (.ops r15 false) [45,46] []) (.cond 47 .skip (.exit 2))) (.seq (.block 3 (.seq (.dr (.ops EU false) [47,50,51] []) (.seq (.seq (.ops r18 false) (.block 4 (.loop l3))) (.seq (.dr (.ops r23 false) [10,52,53,54,67,68,69,70,71,72,73] []) (.seq (.dr (.ops KI false) [74,75,76,77] []) (.seq (.dr (.ops NE false) [78] []) (.seq (.seq (.ops OS false) (.block 6 (.loop l4))) (.seq (.dr (.ops r31 true) [12,79,80,81,93,94,95,96] []) (.seq (.seq (.ops cI false) (.block 8 (.loop l5))) (.dr (.ops cN false) [14,97,98,99,117,118,119,120] [])))))))))) (.dr (.ops r16 false) [48,49] [])))
def c:AL:=(.seq (.dr (.ops r0 false) [0,3] []) (.seq (.seq (.dr (.ops r1 false) [16,17] []) (.cond 18 (.seq (.dr (.ops r2 false) [1,18,19] []) .ret) .skip)) (.seq (.dr (.ops r3 false) [18,20,21,22] []) (.seq (.seq (.dr (.ops r4 false) [23] []) (.cond 24 (.seq (.dr (.ops r5 false) [1,4,24,25] []) .ret) .skip)) (.seq (.dr (.ops r6 false) [24,26,27] []) (.seq (.dr (.ops r7 false) [28,29] []) (.seq (.dr (.ops r8 false) [30,31,32] []) (.seq (.seq (.ops r9 false) (.block 0 (.loop l1))) (.seq (.seq (.dr (.ops r14 false) [33,34,35] []) (.block 2 (.loop l2))) (.seq (.dr (.ops cO false) [1,4,5,6,7,9,47,121,122,123,124,125,126,127,128,129] []) .ret))))))))))
end J5
def J5:AFn:=⟨1,J5.c,[.cell 2 true 2,.tmp 3],false⟩
namespace J9
def r0:List AI:=[o 4 (.mov (.c .nil))]
def r1:List AI:=[m 7 0,o 8 (.len 7),m 9 1,o 10 (.len 9),o 11 (.bin .lss 8 10)]
def r2:List AI:=[m 12 1,m 13 0,m 0 12,m 1 13]
def r3:List AI:=[m 14 0,o 15 (.len 14),o 16 (.mk 16 3 56 [(.bool false),.nil,.nil] 15 15),m 5 16]
def r4:List AI:=[m 17 5,o 18 (.len 17),o 19 (.mov (k 0))]
def r5:List AI:=[o 20 (.bin .lss 19 18)]
def r6:List AI:=[m 21 19,m 6 21]
def r7:List AI:=[m 22 6,m 23 1,o 24 (.len 23),o 25 (.bin .lss 22 24)]
def r8:List AI:=[m 26 5,m 27 6,m 28 0,m 29 6,o 30 (.iadr none 3 28 29),o 31 (.ld true 3 30),m 32 1,m 33 6,o 34 (.iadr none 3 32 33),o 35 (.ld true 3 34),
 o 36 (.call 98 [31,35]),o 37 (.iadr none 3 26 27),n (.st 3 37 36)]
def r9:List AI:=[m 38 5,m 39 6,m 40 0,m 41 6,o 42 (.iadr none 3 40 41),o 43 (.ld true 3 42),o 44 (.call 95 [43]),o 45 (.iadr none 3 38 39),n (.st 3 45 44)]
def CH:List AI:=[o 46 (.bin .add 19 (k 1)),m 19 46]
def CM:List AI:=[m 47 5,o 48 (.calli 169 [47]),m 4 48]
def l1:AL:=(.seq (.ops r5 false) (.seq (.cond 20 .skip (.exit 0)) (.seq (.block 1 (.seq (.dr (.ops r6 false) [20,21] []) (.seq (.dr (.ops r7 false) [22,23,24] []) (.cond 25 (.dr (.ops r8 true) [6,25,26,27,28,29,30,31,32,33,34,35,36,37] []) (.dr (.ops r9 false) [6,25,38,39,40,41,42,43,44,45] []))))) (.dr (.ops CH false) [46] []))))
def c:AL:=(.seq (.dr (.ops r0 false) [4] []) (.seq (.seq (.dr (.ops r1 false) [7,8,9,10] []) (.cond 11 (.dr (.ops r2 false) [11,12,13] []) .skip)) (.seq (.dr (.ops r3 false) [11,14,15,16] []) (.seq (.seq (.dr (.ops r4 false) [17] []) (.block 0 (.loop l1))) (.seq (.dr (.ops CM false) [0,1,5,18,19,20,47,48] []) .ret)))))
end J9
def J9:AFn:=⟨2,J9.c,[.tmp 4],false⟩
namespace KC
def r0:List AI:=[o 3 (.box 3 1),o 4 (.mov (.c .nil))]
def r1:List AI:=[m 7 0,o 8 (.len 7),o 9 (.mk 9 3 56 [(.bool false),.nil,.nil] 8 8),m 5 9]
def r2:List AI:=[m 10 5,o 11 (.len 10),o 12 (.mov (k 0))]
def r3:List AI:=[o 13 (.bin .lss 12 11)]
def r4:List AI:=[m 14 12,m 6 14]
def r5:List AI:=[m 15 5,m 16 6,m 17 0,m 18 6,o 19 (.iadr none 3 17 18),o 20 (.ld true 3 19),o 21 (.ld true 3 3),o 22 (.call 99 [20,21]),o 23 (.iadr none 3 15 16),
 n (.st 3 23 22)]
def r6:List AI:=[o 24 (.bin .add 12 (k 1)),m 12 24]
def r7:List AI:=[m 25 5,o 26 (.calli 169 [25]),m 4 26]
def l1:AL:=(.seq (.ops r3 false) (.seq (.cond 13 .skip (.exit 0)) (.seq (.block 1 (.seq (.dr (.ops r4 false) [13,14] []) (.dr (.ops r5 true) [6,15,16,17,18,19,20,21,22,23] []))) (.dr (.ops r6 false) [24] []))))
def c:AL:=(.seq (.dr (.ops r0 false) [1,4] []) (.seq (.dr (.ops r1 false) [7,8,9] []) (.seq (.seq (.dr (.ops r2 false) [10] []) (.block 0 (.loop l1))) (.seq (.dr (.ops r7 false) [0,3,5,11,12,13,25,26] []) .ret))))
end KC
def KC:AFn:=⟨2,KC.c,[.tmp 4],false⟩
structure TrGLib (L:Lib):Prop extends LinGLib L,RatHLib L,PolyGLib L,R05GLib L where
 J7:L 188=some F.J7
 J5:L 189=some F.J5
 J9:L 191=some F.J9
 KC:L 190=some F.KC
end Go.Eng.F

namespace Go.Eng.F
open C
namespace JH
def r0:List AI:=[o 2 (.box 2 0),o 3 (.box 3 1),o 4 (.mov (k 0))]
def r1:List AI:=[o 7 (.ld true 2 2),o 8 (.call 86 [7]),o 9 (.ld true 2 3),o 10 (.call 86 [9]),m 5 8,m 6 10]
def r2:List AI:=[m 12 5,m 13 6,o 14 (.bin .lss 12 13),m 11 14]
def r3:List AI:=[o 4 (.mov (k (-1)))]
def r4:List AI:=[m 16 5,m 17 6,o 18 (.bin .gtr 16 17),m 15 18]
def r5:List AI:=[o 4 (.mov (k 1))]
def r6:List AI:=[m 20 5,o 21 (.bin .eql 20 (k (-1))),m 19 21]
def r7:List AI:=[o 22 (.fadr 3 1),o 23 (.ld false 1 22),o 24 (.fadr 2 1),o 25 (.ld false 1 24),o 26 (.call 67 [23,25]),m 4 26]
def r8:List AI:=[o 27 (.fadr 2 1),o 28 (.ld false 1 27),o 29 (.fadr 3 1),o 30 (.ld false 1 29),o 31 (.call 67 [28,30]),m 4 31]
def c:AL:=(.seq (.dr (.ops r0 false) [0,1,4] []) (.seq (.dr (.ops r1 true) [7,8,9,10] []) (.seq (.block 0 (.seq (.dr (.ops r2 false) [12,13,14] []) (.cond 11 (.seq (.dr (.ops r3 false) [2,3,5,6,11] []) .ret) (.seq (.dr (.ops r4 false) [6,11,16,17,18] []) (.cond 15 (.seq (.dr (.ops r5 false) [2,3,5,15] []) .ret) (.seq (.dr (.ops r6 false) [5,15,20,21] []) (.cond 19 (.seq (.dr (.ops r7 false) [2,3,19,22,23,24,25,26] []) .ret) .skip))))))) (.seq (.dr (.ops r8 false) [2,3,19,27,28,29,30,31] []) .ret))))
end JH
def JH:AFn:=⟨2,JH.c,[.tmp 4],false⟩
namespace H5
def r0:List AI:=[o 2 (.box 2 0),o 3 (.box 3 1),o 4 (.mov (k 0))]
def r1:List AI:=[⟨some 7,.ld true 3 2,none,[5,6]⟩,⟨some 8,.callq 89 [7],none,[5,6]⟩,⟨some 9,.ld true 3 3,none,[5,6]⟩,⟨some 10,.callq 89 [9],none,[5,6]⟩,
 o 5 (.alloc 5 [(.bool false),.nil,.nil,(.bool false)]),o 6 (.alloc 6 [(.bool false),.nil,.nil,(.bool false)]),n (.st 4 5 8),n (.st 4 6 10)]
def r2:List AI:=[o 11 (.fadr 5 3),o 12 (.ld false 1 11),m 13 12,g 14 13 true (.fadr 6 3),g 15 13 true (.ld false 1 14),o 16 (.pick 13 15 (.c (.bool false)))]
def r3:List AI:=[o 17 (.fadr 5 0),o 18 (.fadr 17 0),o 19 (.ld true 2 18),o 20 (.fadr 6 0),o 21 (.fadr 20 0),o 22 (.ld true 2 21),o 23 (.call 197 [19,22]),m 4 23]
def r4:List AI:=[o 24 (.fadr 5 0),o 25 (.fadr 24 0),o 26 (.ld true 2 25),o 27 (.fadr 6 0),o 28 (.fadr 27 2),o 29 (.ld false 1 28),o 30 (.callq 91 [29]),
 o 31 (.call 88 [26,30]),o 32 (.fadr 6 0),o 33 (.fadr 32 0),o 34 (.ld true 2 33),o 35 (.fadr 5 0),o 36 (.fadr 35 2),o 37 (.ld false 1 36),
 o 38 (.callq 91 [37]),o 39 (.call 88 [34,38]),o 40 (.call 197 [31,39]),m 4 40]
def c:AL:=(.seq (.dr (.ops r0 false) [0,1,4] []) (.seq (.dr (.ops r1 true) [2,3,7,8,9,10] []) (.seq (.seq (.dr (.ops r2 false) [11,12,13,14,15] []) (.cond 16 (.seq (.dr (.ops r3 false) [5,6,16,17,18,19,20,21,22,23] []) .ret) .skip)) (.seq (.dr (.ops r4 true) [5,6,16,24,25,26,27,28,29,30,31,32,33,34,35,36,37,38,39,40] []) .ret))))
end H5
def H5:AFn:=⟨2,H5.c,[.tmp 4],false⟩
namespace KM
def r0:List AI:=[o 1 (.box 1 0),o 2 (.alloc 2 [(.bool false),.nil,.nil])]
def r1:List AI:=[o 3 (.ld true 3 1),o 4 (.callq 149 [3]),o 5 (.call 95 [4]),n (.st 3 2 5)]
def c:AL:=(.seq (.dr (.ops r0 false) [0] []) (.seq (.dr (.ops r1 false) [1,3,4,5] []) .ret))
end KM
def KM:AFn:=⟨1,KM.c,[.cell 2 true 3],false⟩
namespace KA
def r0:List AI:=[o 2 (.mov (k 0))]
def r1:List AI:=[m 3 0,o 4 (.calli 169 [3]),o 5 (.len 4),o 6 (.bin .sub 5 (k 1)),m 2 6]
def c:AL:=(.seq (.dr (.ops r0 false) [2] []) (.seq (.dr (.ops r1 false) [0,3,4,5,6] []) .ret))
end KA
def KA:AFn:=⟨1,KA.c,[.tmp 2],false⟩
namespace L0
def r0:List AI:=[o 1 (.box 1 0),o 2 (.mov (.c (.bool false)))]
def r1:List AI:=[o 3 (.fadr 1 0),o 4 (.ld false 1 3),o 5 (.call 200 [4]),o 6 (.bin .gtr 5 (k 48)),m 7 6,g 8 7 false (.fadr 1 1),g 9 7 false (.ld false 1 8),
 g 10 7 false (.call 200 [9]),g 11 7 false (.bin .gtr 10 (k 48)),o 12 (.pick 7 (.c (.bool true)) 11)]
def r2:List AI:=[o 2 (.mov (.c (.bool false)))]
def r3:List AI:=[o 13 (.fadr 1 1),o 14 (.ld false 1 13),o 15 (.len 14),o 16 (.bin .gtr 15 (k 0)),m 17 16,g 18 17 true (.fadr 1 1),g 19 17 true (.ld false 1 18),
 g 20 17 true (.iadr none 3 19 (k 0)),g 21 17 true (.ld true 3 20),g 22 17 true (.call 96 [(k 1)]),g 23 17 true (.call 198 [21,22]),
 g 24 17 true (.bin .eql 23 (k 0)),o 25 (.pick 17 24 (.c (.bool false))),m 2 25]
def c:AL:=(.seq (.dr (.ops r0 false) [0,2] []) (.seq (.seq (.dr (.ops r1 false) [3,4,5,6,7,8,9,10,11] []) (.cond 12 (.seq (.dr (.ops r2 false) [1,12] []) .ret) .skip)) (.seq (.dr (.ops r3 true) [1,12,13,14,15,16,17,18,19,20,21,22,23,24,25] []) .ret)))
end L0
def L0:AFn:=⟨1,L0.c,[.tmp 2],false⟩
namespace L4
def r0:List AI:=[o 2 (.mov (k 0))]
def r1:List AI:=[m 4 0,o 5 (.len 4),o 6 (.bin .sub 5 (k 1)),m 3 6]
def r2:List AI:=[m 7 3,o 8 (.bin .gtr 7 (k 0))]
def r4:List AI:=[m 11 0,m 12 3,o 13 (.iadr none 3 11 12),o 14 (.ld true 3 13),o 15 (.call 97 [14]),o 16 (.bin .neq 15 (k 0))]
def r5:List AI:=[m 17 3,m 2 17]
def r3:List AI:=[m 9 3,o 10 (.bin .sub 9 (k 1)),m 3 10]
def r6:List AI:=[o 2 (.mov (k 0))]
def l1:AL:=(.seq (.seq (.dr (.ops r2 false) [7] []) (.cond 8 .skip (.exit 0))) (.seq (.block 1 (.seq (.dr (.ops r4 false) [8,11,12,13,14,15] []) (.cond 16 (.seq (.dr (.ops r5 false) [0,3,16,17] []) .ret) .skip))) (.dr (.ops r3 false) [9,10,16] [])))
def c:AL:=(.seq (.dr (.ops r0 false) [2] []) (.seq (.seq (.dr (.ops r1 false) [4,5,6] []) (.block 0 (.loop l1))) (.seq (.dr (.ops r6 false) [0,3,8] []) .ret)))
end L4
def L4:AFn:=⟨1,L4.c,[.tmp 2],false⟩
namespace L3
def r0:List AI:=[o 4 (.alloc 4 [(.bool false),.nil,.nil])]
def r1:List AI:=[m 5 1,m 6 0,o 7 (.len 6),o 8 (.bin .lss 5 7)]
def r2:List AI:=[m 9 0,m 10 1,o 11 (.iadr none 3 9 10),o 12 (.ld true 3 11),o 13 (.call 95 [12]),n (.st 3 4 13)]
def r3:List AI:=[o 14 (.call 96 [(k 0)]),n (.st 3 4 14)]
def c:AL:=(.seq (.ops r0 false) (.seq (.seq (.dr (.ops r1 false) [5,6,7] []) (.cond 8 (.seq (.dr (.ops r2 false) [0,1,8,9,10,11,12,13] []) .ret) .skip)) (.seq (.dr (.ops r3 false) [0,1,8,14] []) .ret)))
end L3
def L3:AFn:=⟨2,L3.c,[.cell 4 true 3],false⟩
namespace L6
def r0:List AI:=[o 2 (.mov (.c .nil))]
def r1:List AI:=[m 5 0,o 6 (.mk 6 3 56 [(.bool false),.nil,.nil] 5 5),m 3 6]
def r2:List AI:=[m 7 0,o 8 (.mov (k 0))]
def r3:List AI:=[o 9 (.bin .lss 8 7)]
def r4:List AI:=[m 10 8,m 4 10]
def r5:List AI:=[m 11 3,m 12 4,o 13 (.call 96 [(k 0)]),o 14 (.iadr none 3 11 12),n (.st 3 14 13)]
def r6:List AI:=[o 15 (.bin .add 8 (k 1)),m 8 15]
def r7:List AI:=[m 16 3,m 2 16]
def l1:AL:=(.seq (.ops r3 false) (.seq (.cond 9 .skip (.exit 0)) (.seq (.block 1 (.seq (.dr (.ops r4 false) [9,10] []) (.dr (.ops r5 false) [4,11,12,13,14] []))) (.dr (.ops r6 false) [15] []))))
def c:AL:=(.seq (.dr (.ops r0 false) [2] []) (.seq (.dr (.ops r1 false) [5,6] []) (.seq (.seq (.dr (.ops r2 false) [0] []) (.block 0 (.loop l1))) (.seq (.dr (.ops r7 false) [3,7,8,9,16] []) .ret))))
end L6
def L6:AFn:=⟨1,L6.c,[.tmp 2],false⟩
namespace IH
def r0:List AI:=[o 1 (.box 1 0),o 2 (.alloc 2 [.nil,.nil,.nil,(.bool false),.nil,.nil]),o 3 (.mov (k 0))]
def r1:List AI:=[o 10 (.ld true 2 1),o 11 (.call 201 [10]),o 12 (.un .not 11)]
def r2:List AI:=[o 13 (.build [.nil,.nil,.nil,(.bool false),.nil,.nil] []),n (.st 6 2 13),o 3 (.mov (k 2))]
def r3:List AI:=[o 14 (.fadr 1 0),o 15 (.ld false 1 14),o 16 (.call 204 [15]),o 17 (.fadr 1 1),o 18 (.ld false 1 17),o 19 (.call 204 [18]),o 20 (.mm true [16,19]),
 m 4 20]
def r4:List AI:=[m 21 4,o 22 (.bin .gtr 21 (k 16))]
def r5:List AI:=[o 23 (.build [.nil,.nil,.nil,(.bool false),.nil,.nil] []),n (.st 6 2 23),o 3 (.mov (k 12))]
def r6:List AI:=[o 24 (.fadr 1 0),o 25 (.ld false 1 24),o 26 (.call 205 [25,(k 0)]),m 27 4,o 28 (.callr 28 206 [27]),
 o 29 (.build [.nil,.nil,.nil,(.bool false),.nil,.nil] [(3,3,26),(1,1,28)]),o 5 (.alloc 5 [.nil,.nil,.nil,(.bool false),.nil,.nil]),
 n (.st 6 5 29)]
def r7:List AI:=[m 30 4,o 31 (.bin .gtr 30 (k 0))]
def r8:List AI:=[o 32 (.fadr 5 1),o 33 (.ld false 1 32),o 34 (.call 96 [(k 1)]),o 35 (.iadr none 3 33 (k 0)),n (.st 3 35 34)]
def r9:List AI:=[m 36 4,o 37 (.mov (k 0))]
def CH:List AI:=[o 38 (.bin .lss 37 36)]
def CM:List AI:=[m 39 37,m 6 39]
def r12:List AI:=[m 40 4,o 41 (.callr 41 206 [40]),m 7 41]
def C1:List AI:=[m 42 6,o 43 (.bin .gtr 42 (k 0))]
def r14:List AI:=[m 44 7,m 45 6,o 46 (.bin .sub 45 (k 1)),o 47 (.call 96 [(k 1)]),o 48 (.iadr none 3 44 46),n (.st 3 48 47)]
def r15:List AI:=[m 49 4,o 50 (.mov (k 0))]
def r16:List AI:=[o 51 (.bin .lss 50 49)]
def EU:List AI:=[m 52 50,m 8 52]
def r18:List AI:=[m 53 7,m 54 8,o 55 (.fadr 1 1),o 56 (.ld false 1 55),m 57 8,o 58 (.bin .add 57 (k 1)),o 59 (.call 205 [56,58]),o 60 (.call 199 [59]),
 o 61 (.iadr none 3 53 54),n (.st 3 61 60)]
def r19:List AI:=[o 62 (.bin .add 50 (k 1)),m 50 62]
def r20:List AI:=[o 63 (.fadr 5 0),o 64 (.ld false 1 63),m 65 7,o 66 (.bslice 66 1 [65]),o 67 (.app 67 1 24 64 66),o 68 (.fadr 5 0),n (.st 1 68 67)]
def r21:List AI:=[o 69 (.fadr 1 0),⟨some 70,.ld false 1 69,none,[9]⟩,⟨some 71,.call 205 [70,(k 0)],none,[9]⟩,o 72 (.fadr 1 1),⟨some 73,.ld false 1 72,none,[9]⟩,
 m 74 6,o 75 (.bin .add 74 (k 1)),⟨some 76,.call 205 [73,75],none,[9]⟩,⟨some 77,.call 99 [71,76],none,[9]⟩,
 o 9 (.alloc 9 [(.bool false),.nil,.nil]),n (.st 3 9 77)]
def r22:List AI:=[o 78 (.fadr 5 2),⟨some 79,.ld false 1 78,none,[87]⟩,o 80 (.fadr 1 0),o 81 (.ld false 1 80),m 82 6,o 83 (.bin .add 82 (k 1)),o 84 (.call 205 [81,83]),
 o 85 (.ld true 3 9),o 86 (.call 150 [84,85]),o 87 (.bslice 87 3 [86]),o 88 (.app 88 3 56 79 87),o 89 (.fadr 5 2),n (.st 1 89 88)]
def r23:List AI:=[o 90 (.bin .add 37 (k 1)),m 37 90]
def KI:List AI:=[o 91 (.ld true 6 5),n (.st 6 2 91),o 3 (.mov (k 0))]
def l2:AL:=(.seq (.ops r16 false) (.seq (.cond 51 .skip (.exit 2)) (.seq (.block 3 (.seq (.dr (.ops EU false) [51,52] []) (.dr (.ops r18 false) [8,53,54,55,56,57,58,59,60,61] []))) (.dr (.ops r19 false) [62] []))))
def l1:AL:=(.seq (.ops CH false) (.seq (.cond 38 .skip (.exit 0)) (.seq (.block 1 (.seq (.dr (.ops CM false) [38,39] []) (.seq (.dr (.ops r12 false) [40,41] []) (.seq (.seq (.dr (.ops C1 false) [42] []) (.cond 43 (.dr (.ops r14 false) [43,44,45,46,47,48] []) (.seq (.dr (.ops r15 false) [43] []) (.block 2 (.loop l2))))) (.seq (.dr (.ops r20 false) [7,49,50,51,63,64,65,66,67,68] []) (.seq (.dr (.ops r21 true) [69,70,71,72,73,74,75,76,77] []) (.dr (.ops r22 true) [6,9,78,79,80,81,82,83,84,85,86,87,88,89] []))))))) (.dr (.ops r23 false) [90] []))))
def c:AL:=(.seq (.dr (.ops r0 false) [0,3] []) (.seq (.seq (.dr (.ops r1 false) [10,11] []) (.cond 12 (.seq (.dr (.ops r2 false) [1,12,13] []) .ret) .skip)) (.seq (.dr (.ops r3 true) [12,14,15,16,17,18,19,20] []) (.seq (.seq (.dr (.ops r4 false) [21] []) (.cond 22 (.seq (.dr (.ops r5 false) [1,4,22,23] []) .ret) .skip)) (.seq (.dr (.ops r6 false) [22,24,25,26,27,28,29] []) (.seq (.seq (.dr (.ops r7 false) [30] []) (.cond 31 (.dr (.ops r8 true) [31,32,33,34,35] []) .skip)) (.seq (.seq (.dr (.ops r9 false) [31] []) (.block 0 (.loop l1))) (.seq (.dr (.ops KI false) [1,4,5,36,37,38,91] []) .ret))))))))
end IH
def IH:AFn:=⟨1,IH.c,[.cell 2 true 6,.tmp 3],false⟩
namespace LY
def r0:List AI:=[o 2 (.mov (.c .nil))]
def r1:List AI:=[m 6 0,o 7 (.len 6),o 8 (.mk 8 1 24 [.nil] 7 7),m 3 8]
def r2:List AI:=[o 4 (.mov (k 0))]
def r3:List AI:=[m 9 4,m 10 0,o 11 (.len 10),o 12 (.bin .lss 9 11)]
def r5:List AI:=[o 5 (.mov (k 0))]
def r6:List AI:=[m 15 5,m 16 0,o 17 (.len 16),o 18 (.bin .lss 15 17)]
def r8:List AI:=[m 21 3,m 22 4,m 23 3,m 24 4,o 25 (.iadr none 1 23 24),⟨some 26,.ld false 1 25,none,[34]⟩,m 27 0,m 28 5,o 29 (.iadr none 1 27 28),
 o 30 (.ld false 1 29),m 31 4,o 32 (.iadr none 3 30 31),o 33 (.ld true 3 32),o 34 (.bslice 34 3 [33]),o 35 (.app 35 3 56 26 34),o 36 (.iadr none 1 21 22),
 n (.st 1 36 35)]
def r7:List AI:=[m 19 5,o 20 (.bin .add 19 (k 1)),m 5 20]
def r4:List AI:=[m 13 4,o 14 (.bin .add 13 (k 1)),m 4 14]
def r9:List AI:=[m 37 3,m 2 37]
def l2:AL:=(.seq (.seq (.dr (.ops r6 false) [15,16,17] []) (.cond 18 .skip (.exit 2))) (.seq (.block 3 (.dr (.ops r8 true) [18,21,22,23,24,25,26,27,28,29,30,31,32,33,34,35,36] [])) (.dr (.ops r7 false) [19,20] [])))
def l1:AL:=(.seq (.seq (.dr (.ops r3 false) [9,10,11] []) (.cond 12 .skip (.exit 0))) (.seq (.block 1 (.seq (.dr (.ops r5 false) [12] []) (.block 2 (.loop l2)))) (.dr (.ops r4 false) [5,13,14,18] [])))
def c:AL:=(.seq (.dr (.ops r0 false) [2] []) (.seq (.dr (.ops r1 false) [6,7,8] []) (.seq (.seq (.ops r2 false) (.block 0 (.loop l1))) (.seq (.dr (.ops r9 false) [0,3,4,12,37] []) .ret))))
end LY
def LY:AFn:=⟨1,LY.c,[.tmp 2],false⟩
structure StGLib (L:Lib):Prop extends TrGLib L where
 JH:L 197=some F.JH
 H5:L 198=some F.H5
 KM:L 199=some F.KM
 KA:L 200=some F.KA
 L0:L 201=some F.L0
 L4:L 204=some F.L4
 L3:L 205=some F.L3
 L6:L 206=some F.L6
 IH:L 207=some F.IH
 LY:L 212=some F.LY
end Go.Eng.F

namespace Go.Eng.F
open C
namespace KJ
def r0:List AI:=[o 1 (.box 1 0),o 2 (.alloc 2 [(.bool false),.nil,.nil])]
def r1:List AI:=[o 3 (.fadr 1 0),o 4 (.fadr 3 1),o 5 (.ld false 1 4),o 6 (.build [(.bool false),.nil] [(1,1,5)]),o 7 (.fadr 1 2),o 8 (.ld false 1 7),
 o 9 (.build [(.bool false),.nil,.nil] [(0,2,6),(2,1,8)]),o 10 (.call 95 [9]),n (.st 3 2 10)]
def c:AL:=(.seq (.dr (.ops r0 false) [0] []) (.seq (.dr (.ops r1 false) [1,3,4,5,6,7,8,9,10] []) .ret))
end KJ
def KJ:AFn:=⟨1,KJ.c,[.cell 2 true 3],false⟩
namespace KF
def r0:List AI:=[o 1 (.box 1 0),o 2 (.alloc 2 [(.bool false),.nil,.nil]),o 3 (.alloc 3 [(.bool false),.nil,.nil])]
def r1:List AI:=[o 5 (.bslice 5 1 [(.c (.int .u32 (1)))]),m 4 5]
def r2:List AI:=[o 6 (.fadr 1 0),o 7 (.ld true 2 6),m 8 4,o 9 (.build [(.bool false),.nil,.nil] [(0,2,7),(2,1,8)]),o 10 (.fadr 1 2),
 ⟨some 11,.ld false 1 10,none,[2]⟩,o 12 (.build [(.bool false),.nil] [(1,1,11)]),m 13 4,
 o 14 (.build [(.bool false),.nil,.nil] [(0,2,12),(2,1,13)]),n (.sto 2 3 2 9),n (.st 3 3 14)]
def c:AL:=(.seq (.dr (.ops r0 false) [0] []) (.seq (.dr (.ops r1 false) [5] []) (.seq (.dr (.ops r2 true) [1,4,6,7,8,9,10,11,12,13,14] []) .ret)))
end KF
def KF:AFn:=⟨1,KF.c,[.cell 2 true 3,.cell 3 true 3],false⟩
namespace KE
def r0:List AI:=[o 2 (.box 2 0),o 3 (.box 3 1),o 4 (.alloc 4 [(.bool false),.nil,.nil])]
def r1:List AI:=[o 11 (.ld true 3 2),o 12 (.call 97 [11]),o 13 (.bin .eql 12 (k 0))]
def r2:List AI:=[o 14 (.ld true 3 3),o 15 (.call 256 [14]),n (.st 3 4 15)]
def r3:List AI:=[o 17 (.ld true 3 2),o 18 (.ld true 3 3),o 19 (.call 100 [17,18]),m 16 19,o 20 (.ext 16 0),o 21 (.ext 16 1),o 5 (.alloc 5 [(.bool false),.nil,.nil]),
 n (.st 3 5 20),m 6 21]
def r4:List AI:=[m 22 6,o 23 (.bin .neq 22 (k 0))]
def r5:List AI:=[o 24 (.ld true 3 2),n (.st 3 4 24)]
def r6:List AI:=[o 26 (.ld true 3 5),o 27 (.call 257 [26]),m 25 27,o 28 (.ext 25 0),o 29 (.ext 25 1),o 7 (.alloc 7 [(.bool false),.nil,.nil]),
 o 8 (.alloc 8 [(.bool false),.nil,.nil]),n (.st 3 7 28),n (.st 3 8 29)]
def r7:List AI:=[o 31 (.ld true 3 2),o 32 (.ld true 3 7),o 33 (.call 100 [31,32]),m 30 33,o 34 (.ext 30 0),o 35 (.ext 30 1),o 9 (.alloc 9 [(.bool false),.nil,.nil]),
 n (.st 3 9 34),m 10 35]
def r8:List AI:=[o 36 (.ld true 3 9),o 37 (.call 256 [36]),n (.st 3 4 37)]
def c:AL:=(.seq (.dr (.ops r0 false) [0,1] []) (.seq (.seq (.dr (.ops r1 false) [11,12] []) (.cond 13 (.seq (.dr (.ops r2 false) [2,3,13,14,15] []) .ret) .skip)) (.seq (.dr (.ops r3 false) [3,13,16,17,18,19,20,21] []) (.seq (.seq (.dr (.ops r4 false) [6,22] []) (.cond 23 (.seq (.dr (.ops r5 false) [2,5,23,24] []) .ret) .skip)) (.seq (.dr (.ops r6 false) [5,8,23,25,26,27,28,29] []) (.seq (.dr (.ops r7 false) [2,7,10,30,31,32,33,34,35] []) (.seq (.dr (.ops r8 false) [9,36,37] []) .ret)))))))
end KE
def KE:AFn:=⟨2,KE.c,[.cell 4 true 3],false⟩
namespace KG
def r0:List AI:=[o 2 (.alloc 2 [(.bool false),.nil,.nil]),o 3 (.mov (.c .nil))]
def r1:List AI:=[m 10 0,o 11 (.calli 169 [10]),m 0 11]
def r2:List AI:=[o 12 (.call 96 [(k 0)]),o 4 (.alloc 4 [(.bool false),.nil,.nil]),n (.st 3 4 12)]
def r3:List AI:=[m 13 0,o 14 (.len 13),o 15 (.mov (k 0))]
def r4:List AI:=[o 16 (.bin .lss 15 14)]
def r5:List AI:=[o 17 (.iadr none 3 13 15),o 18 (.ld true 3 17),o 6 (.alloc 6 [(.bool false),.nil,.nil]),n (.st 3 6 18)]
def r6:List AI:=[o 19 (.ld true 3 4),o 20 (.ld true 3 6),o 21 (.call 258 [19,20]),n (.st 3 4 21)]
def r7:List AI:=[o 22 (.bin .add 15 (k 1)),m 15 22]
def r8:List AI:=[m 23 0,o 24 (.len 23),o 25 (.mk 25 3 56 [(.bool false),.nil,.nil] 24 24),m 7 25]
def r9:List AI:=[m 26 0,o 27 (.len 26),o 28 (.mov (k 0))]
def CH:List AI:=[o 29 (.bin .lss 28 27)]
def CM:List AI:=[m 30 28,o 31 (.iadr none 3 26 28),o 32 (.ld true 3 31),o 9 (.alloc 9 [(.bool false),.nil,.nil]),m 8 30,n (.st 3 9 32)]
def r12:List AI:=[m 34 7,m 35 8,o 36 (.ld true 3 9),o 37 (.ld true 3 4),o 38 (.call 100 [36,37]),m 33 38,o 39 (.ext 33 0),o 40 (.ext 33 1),o 41 (.iadr none 3 34 35),
 n (.st 3 41 39)]
def C1:List AI:=[o 42 (.bin .add 28 (k 1)),m 28 42]
def r14:List AI:=[o 43 (.ld true 3 4),m 44 7,n (.st 3 2 43),m 3 44]
def l1:AL:=(.seq (.ops r4 false) (.seq (.cond 16 .skip (.exit 0)) (.seq (.block 1 (.seq (.dr (.ops r5 false) [16,17,18] []) (.dr (.ops r6 false) [6,19,20,21] []))) (.dr (.ops r7 false) [22] []))))
def l2:AL:=(.seq (.ops CH false) (.seq (.cond 29 .skip (.exit 2)) (.seq (.block 3 (.seq (.dr (.ops CM false) [29,30,31,32] []) (.dr (.ops r12 false) [8,9,33,34,35,36,37,38,39,40,41] []))) (.dr (.ops C1 false) [42] []))))
def c:AL:=(.seq (.dr (.ops r0 false) [3] []) (.seq (.dr (.ops r1 false) [10,11] []) (.seq (.dr (.ops r2 false) [12] []) (.seq (.seq (.ops r3 false) (.block 0 (.loop l1))) (.seq (.dr (.ops r8 false) [13,14,15,16,23,24,25] []) (.seq (.seq (.dr (.ops r9 false) [0] []) (.block 2 (.loop l2))) (.seq (.dr (.ops r14 false) [4,7,26,27,28,29,43,44] []) .ret)))))))
end KG
def KG:AFn:=⟨1,KG.c,[.cell 2 true 3,.tmp 3],false⟩
structure PolELib (L:Lib):Prop extends StGLib L where
 KJ:L 256=some F.KJ
 KF:L 257=some F.KF
 KE:L 258=some F.KE
 KG:L 259=some F.KG
end Go.Eng.F

namespace Go.Eng.F
open C
namespace KH
def r0:List AI:=[o 2 (.mov (.c .nil))]
def r1:List AI:=[m 5 0,o 6 (.mk 6 3 56 [(.bool false),.nil,.nil] 5 5),m 3 6]
def r2:List AI:=[m 7 3,o 8 (.len 7),o 9 (.mov (k 0))]
def r3:List AI:=[o 10 (.bin .lss 9 8)]
def r4:List AI:=[m 11 9,m 4 11]
def r5:List AI:=[m 12 3,m 13 4,o 14 (.call 96 [(k 0)]),o 15 (.iadr none 3 12 13),n (.st 3 15 14)]
def r6:List AI:=[o 16 (.bin .add 9 (k 1)),m 9 16]
def r7:List AI:=[m 17 3,m 2 17]
def l1:AL:=(.seq (.ops r3 false) (.seq (.cond 10 .skip (.exit 0)) (.seq (.block 1 (.seq (.dr (.ops r4 false) [10,11] []) (.dr (.ops r5 false) [4,12,13,14,15] []))) (.dr (.ops r6 false) [16] []))))
def c:AL:=(.seq (.dr (.ops r0 false) [2] []) (.seq (.dr (.ops r1 false) [0,5,6] []) (.seq (.seq (.dr (.ops r2 false) [7] []) (.block 0 (.loop l1))) (.seq (.dr (.ops r7 false) [3,8,9,10,17] []) .ret))))
end KH
def KH:AFn:=⟨1,KH.c,[.tmp 2],false⟩
namespace H3
def r0:List AI:=[o 4 (.mov (.c .nil))]
def r1:List AI:=[m 15 0,o 16 (.call 259 [15]),m 14 16,o 17 (.ext 14 0),o 18 (.ext 14 1),o 5 (.alloc 5 [(.bool false),.nil,.nil]),n (.st 3 5 17),m 6 18]
def r2:List AI:=[m 20 1,o 21 (.call 259 [20]),m 19 21,o 22 (.ext 19 0),o 23 (.ext 19 1),o 7 (.alloc 7 [(.bool false),.nil,.nil]),n (.st 3 7 22),m 8 23]
def r3:List AI:=[m 24 6,o 25 (.len 24),o 26 (.bin .eql 25 (k 0)),m 27 26,g 28 27 false (.mov 8),g 29 27 false (.len 28),g 30 27 false (.bin .eql 29 (k 0)),
 o 31 (.pick 27 (.c (.bool true)) 30)]
def r4:List AI:=[o 4 (.mov (.c .nil))]
def r5:List AI:=[m 32 6,o 33 (.len 32),m 34 8,o 35 (.len 34),o 36 (.bin .add 33 35),o 37 (.bin .sub 36 (k 1)),o 38 (.callr 38 273 [37]),m 9 38]
def r6:List AI:=[m 39 6,o 40 (.len 39),o 41 (.mov (k 0))]
def r7:List AI:=[o 42 (.bin .lss 41 40)]
def r8:List AI:=[m 43 41,o 44 (.iadr none 3 39 41),o 45 (.ld true 3 44),o 11 (.alloc 11 [(.bool false),.nil,.nil]),m 10 43,n (.st 3 11 45)]
def r9:List AI:=[m 46 8,o 47 (.len 46),o 48 (.mov (k 0))]
def CH:List AI:=[o 49 (.bin .lss 48 47)]
def CM:List AI:=[m 50 48,o 51 (.iadr none 3 46 48),o 52 (.ld true 3 51),o 13 (.alloc 13 [(.bool false),.nil,.nil]),m 12 50,n (.st 3 13 52)]
def r12:List AI:=[m 53 9,m 54 10,m 55 12,o 56 (.bin .add 54 55),m 57 9,m 58 10,m 59 12,o 60 (.bin .add 58 59),o 61 (.iadr none 3 57 60),o 62 (.ld true 3 61),
 o 63 (.ld true 3 11),o 64 (.ld true 3 13),o 65 (.call 99 [63,64]),o 66 (.call 98 [62,65]),o 67 (.iadr none 3 53 56),n (.st 3 67 66)]
def C1:List AI:=[o 68 (.bin .add 48 (k 1)),m 48 68]
def r14:List AI:=[o 69 (.bin .add 41 (k 1)),m 41 69]
def r15:List AI:=[m 70 9,o 71 (.ld true 3 5),o 72 (.ld true 3 7),o 73 (.call 99 [71,72]),o 74 (.call 190 [70,73]),m 4 74]
def l2:AL:=(.seq (.ops CH false) (.seq (.cond 49 .skip (.exit 2)) (.seq (.block 3 (.seq (.dr (.ops CM false) [49,50,51,52] []) (.dr (.ops r12 true) [12,13,53,54,55,56,57,58,59,60,61,62,63,64,65,66,67] []))) (.dr (.ops C1 false) [68] []))))
def l1:AL:=(.seq (.ops r7 false) (.seq (.cond 42 .skip (.exit 0)) (.seq (.block 1 (.seq (.dr (.ops r8 false) [42,43,44,45] []) (.seq (.ops r9 false) (.block 2 (.loop l2))))) (.dr (.ops r14 false) [10,11,46,47,48,49,69] []))))
def c:AL:=(.seq (.dr (.ops r0 false) [4] []) (.seq (.dr (.ops r1 false) [0,14,15,16,17,18] []) (.seq (.dr (.ops r2 false) [1,19,20,21,22,23] []) (.seq (.seq (.dr (.ops r3 false) [24,25,26,27,28,29,30] []) (.cond 31 (.seq (.dr (.ops r4 false) [5,6,7,8,31] []) .ret) .skip)) (.seq (.dr (.ops r5 false) [31,32,33,34,35,36,37,38] []) (.seq (.seq (.dr (.ops r6 false) [6] []) (.block 0 (.loop l1))) (.seq (.dr (.ops r15 false) [5,7,8,9,39,40,41,42,70,71,72,73,74] []) .ret)))))))
end H3
def H3:AFn:=⟨2,H3.c,[.tmp 4],false⟩
namespace KB
def r0:List AI:=[o 4 (.mov (.c (.bool false)))]
def r1:List AI:=[m 8 0,o 9 (.calli 169 [8]),m 10 1,o 11 (.calli 169 [10]),m 5 9,m 6 11]
def r2:List AI:=[m 12 5,o 13 (.len 12),m 14 6,o 15 (.len 14),o 16 (.bin .neq 13 15)]
def r3:List AI:=[o 4 (.mov (.c (.bool false)))]
def r4:List AI:=[m 17 5,o 18 (.len 17),o 19 (.mov (k 0))]
def r5:List AI:=[o 20 (.bin .lss 19 18)]
def r6:List AI:=[m 21 19,m 7 21]
def r7:List AI:=[m 22 5,m 23 7,o 24 (.iadr none 3 22 23),o 25 (.ld true 3 24),m 26 6,m 27 7,o 28 (.iadr none 3 26 27),o 29 (.ld true 3 28),o 30 (.call 198 [25,29]),
 o 31 (.bin .neq 30 (k 0))]
def r8:List AI:=[o 4 (.mov (.c (.bool false)))]
def r9:List AI:=[o 32 (.bin .add 19 (k 1)),m 19 32]
def CH:List AI:=[o 4 (.mov (.c (.bool true)))]
def l1:AL:=(.seq (.ops r5 false) (.seq (.cond 20 .skip (.exit 0)) (.seq (.block 1 (.seq (.dr (.ops r6 false) [20,21] []) (.seq (.dr (.ops r7 true) [7,22,23,24,25,26,27,28,29,30] []) (.cond 31 (.seq (.dr (.ops r8 false) [5,6,18,19,31] []) .ret) .skip)))) (.dr (.ops r9 false) [31,32] []))))
def c:AL:=(.seq (.dr (.ops r0 false) [4] []) (.seq (.dr (.ops r1 false) [0,1,8,9,10,11] []) (.seq (.seq (.dr (.ops r2 false) [12,13,14,15] []) (.cond 16 (.seq (.dr (.ops r3 false) [5,6,16] []) .ret) .skip)) (.seq (.seq (.dr (.ops r4 false) [16,17] []) (.block 0 (.loop l1))) (.seq (.dr (.ops CH false) [5,6,18,19,20] []) .ret)))))
end KB
def KB:AFn:=⟨2,KB.c,[.tmp 4],false⟩
structure PolMLib (L:Lib):Prop extends PolELib L where
 KH:L 273=some F.KH
 H3:L 274=some F.H3
 KB:L 275=some F.KB
end Go.Eng.F

namespace Go.Eng.F
open C
namespace LO
def r0:List AI:=[o 2 (.mov (.c (.bool false)))]
def r1:List AI:=[m 5 0,o 6 (.len 5),o 7 (.bin .lss 6 (k 1)),m 8 7,g 9 8 false (.mov 0),g 10 8 false (.len 9),g 11 8 false (.bin .gtr 10 (k 52)),
 o 12 (.pick 8 (.c (.bool true)) 11),m 13 12,g 14 13 false (.mov 0),g 15 13 false (.iadr none 1 14 (k 0)),g 16 13 false (.ld false 1 15),
 g 17 13 false (.len 16),g 18 13 false (.bin .lss 17 (k 1)),o 19 (.pick 13 (.c (.bool true)) 18),m 20 19,g 21 20 false (.mov 0),
 g 22 20 false (.iadr none 1 21 (k 0)),g 23 20 false (.ld false 1 22),g 24 20 false (.len 23),g 25 20 false (.bin .gtr 24 (k 52)),
 o 26 (.pick 20 (.c (.bool true)) 25)]
def r2:List AI:=[o 2 (.mov (.c (.bool false)))]
def r3:List AI:=[m 27 0,o 28 (.len 27),o 29 (.mov (k 0))]
def r4:List AI:=[o 30 (.bin .lss 29 28)]
def r5:List AI:=[o 31 (.iadr none 1 27 29),o 32 (.ld false 1 31),m 4 32]
def r6:List AI:=[m 33 4,o 34 (.len 33),m 35 0,o 36 (.iadr none 1 35 (k 0)),o 37 (.ld false 1 36),o 38 (.len 37),o 39 (.bin .neq 34 38)]
def r7:List AI:=[o 2 (.mov (.c (.bool false)))]
def r8:List AI:=[o 40 (.bin .add 29 (k 1)),m 29 40]
def r9:List AI:=[o 2 (.mov (.c (.bool true)))]
def l1:AL:=(.seq (.ops r4 false) (.seq (.cond 30 .skip (.exit 0)) (.seq (.block 1 (.seq (.dr (.ops r5 false) [30,31,32] []) (.seq (.dr (.ops r6 false) [4,33,34,35,36,37,38] []) (.cond 39 (.seq (.dr (.ops r7 false) [0,27,28,29,39] []) .ret) .skip)))) (.dr (.ops r8 false) [39,40] []))))
def c:AL:=(.seq (.dr (.ops r0 false) [2] []) (.seq (.seq (.dr (.ops r1 false) [5,6,7,8,9,10,11,12,13,14,15,16,17,18,19,20,21,22,23,24,25] []) (.cond 26 (.seq (.dr (.ops r2 false) [0,26] []) .ret) .skip)) (.seq (.seq (.dr (.ops r3 false) [26] []) (.block 0 (.loop l1))) (.seq (.dr (.ops r9 false) [0,27,28,29,30] []) .ret))))
end LO
def LO:AFn:=⟨1,LO.c,[.tmp 2],false⟩
namespace LM
def r0:List AI:=[o 2 (.mov (.c .nil)),o 3 (.mov (k 0))]
def r1:List AI:=[m 8 0,o 9 (.bin .lss 8 (k 1)),m 10 9,g 11 10 false (.mov 0),g 12 10 false (.bin .gtr 11 (k 52)),o 13 (.pick 10 (.c (.bool true)) 12)]
def r2:List AI:=[o 2 (.mov (.c .nil)),o 3 (.mov (k 1))]
def r3:List AI:=[o 4 (.vrow 4 1)]
def r4:List AI:=[o 5 (.mov (k 0))]
def r5:List AI:=[m 14 5,m 15 0,o 16 (.bin .lss 14 15)]
def r7:List AI:=[m 19 0,o 20 (.mk 20 3 56 [(.bool false),.nil,.nil] 19 19),m 6 20]
def r8:List AI:=[m 21 6,o 22 (.len 21),o 23 (.mov (k 0))]
def r9:List AI:=[o 24 (.bin .lss 23 22)]
def CH:List AI:=[m 25 23,m 7 25]
def CM:List AI:=[m 26 6,m 27 7,o 28 (.call 124 [(k 0)]),o 29 (.iadr none 3 26 27),n (.st 3 29 28)]
def r12:List AI:=[o 30 (.bin .add 23 (k 1)),m 23 30]
def C1:List AI:=[m 31 6,m 32 5,o 33 (.call 124 [(k 1)]),o 34 (.iadr none 3 31 32),n (.st 3 34 33)]
def r14:List AI:=[m 35 4,m 36 6,o 37 (.bslice 37 1 [36]),o 38 (.app 38 1 24 35 37),m 4 38]
def r6:List AI:=[m 17 5,o 18 (.bin .add 17 (k 1)),m 5 18]
def r15:List AI:=[m 39 4,m 2 39,o 3 (.mov (k 0))]
def l2:AL:=(.seq (.ops r9 false) (.seq (.cond 24 .skip (.exit 2)) (.seq (.block 3 (.seq (.dr (.ops CH false) [24,25] []) (.dr (.ops CM false) [7,26,27,28,29] []))) (.dr (.ops r12 false) [30] []))))
def l1:AL:=(.seq (.seq (.dr (.ops r5 false) [14,15] []) (.cond 16 .skip (.exit 0))) (.seq (.block 1 (.seq (.dr (.ops r7 false) [16,19,20] []) (.seq (.seq (.dr (.ops r8 false) [21] []) (.block 2 (.loop l2))) (.seq (.dr (.ops C1 false) [22,23,24,31,32,33,34] []) (.dr (.ops r14 false) [6,35,36,37,38] []))))) (.dr (.ops r6 false) [17,18] [])))
def c:AL:=(.seq (.dr (.ops r0 false) [2,3] []) (.seq (.seq (.dr (.ops r1 false) [8,9,10,11,12] []) (.cond 13 (.seq (.dr (.ops r2 false) [0,13] []) .ret) .skip)) (.seq (.dr (.ops r3 false) [13] []) (.seq (.seq (.ops r4 false) (.block 0 (.loop l1))) (.seq (.dr (.ops r15 false) [0,4,5,16,39] []) .ret)))))
end LM
def LM:AFn:=⟨1,LM.c,[.tmp 2,.tmp 3],false⟩
namespace LN
def r0:List AI:=[o 4 (.mov (.c .nil)),o 5 (.mov (k 0))]
def r1:List AI:=[m 13 0,o 14 (.call 239 [13]),o 15 (.un .not 14),m 16 15,g 17 16 false (.mov 1),g 18 16 false (.call 239 [17]),g 19 16 false (.un .not 18),
 o 20 (.pick 16 (.c (.bool true)) 19),m 12 20]
def r2:List AI:=[o 4 (.mov (.c .nil)),o 5 (.mov (k 2))]
def r3:List AI:=[m 22 0,o 23 (.iadr none 1 22 (k 0)),o 24 (.ld false 1 23),o 25 (.len 24),m 26 1,o 27 (.len 26),o 28 (.bin .neq 25 27),m 21 28]
def r4:List AI:=[o 4 (.mov (.c .nil)),o 5 (.mov (k 1))]
def r5:List AI:=[o 6 (.vrow 6 1)]
def r6:List AI:=[m 29 0,o 30 (.len 29),o 31 (.mov (k 0))]
def r7:List AI:=[o 32 (.bin .lss 31 30)]
def r8:List AI:=[m 33 31,m 7 33]
def r9:List AI:=[o 8 (.vrow 8 3)]
def CH:List AI:=[m 34 1,o 35 (.iadr none 1 34 (k 0)),o 36 (.ld false 1 35),o 37 (.len 36),o 38 (.mov (k 0))]
def CM:List AI:=[o 39 (.bin .lss 38 37)]
def r12:List AI:=[m 40 38,m 9 40]
def C1:List AI:=[o 41 (.call 124 [(k 0)]),o 10 (.alloc 10 [(.bool false),.nil,.nil]),n (.st 3 10 41)]
def r14:List AI:=[m 42 1,o 43 (.len 42),o 44 (.mov (k 0))]
def r15:List AI:=[o 45 (.bin .lss 44 43)]
def r16:List AI:=[m 46 44,m 11 46]
def EU:List AI:=[o 47 (.ld true 3 10),m 48 0,m 49 7,o 50 (.iadr none 1 48 49),o 51 (.ld false 1 50),m 52 11,o 53 (.iadr none 3 51 52),o 54 (.ld true 3 53),m 55 1,
 m 56 11,o 57 (.iadr none 1 55 56),o 58 (.ld false 1 57),m 59 9,o 60 (.iadr none 3 58 59),o 61 (.ld true 3 60),o 62 (.call 128 [54,61]),
 o 63 (.call 126 [47,62]),n (.st 3 10 63)]
def r18:List AI:=[o 64 (.bin .add 44 (k 1)),m 44 64]
def r19:List AI:=[m 65 8,o 66 (.ld true 3 10),o 67 (.bslice 67 3 [66]),o 68 (.app 68 3 56 65 67),m 8 68]
def r20:List AI:=[o 69 (.bin .add 38 (k 1)),m 38 69]
def r21:List AI:=[m 70 6,m 71 8,o 72 (.bslice 72 1 [71]),o 73 (.app 73 1 24 70 72),m 6 73]
def r22:List AI:=[o 74 (.bin .add 31 (k 1)),m 31 74]
def r23:List AI:=[m 75 6,m 4 75,o 5 (.mov (k 0))]
def l3:AL:=(.seq (.ops r15 false) (.seq (.cond 45 .skip (.exit 5)) (.seq (.block 6 (.seq (.dr (.ops r16 false) [45,46] []) (.dr (.ops EU true) [11,47,48,49,50,51,52,53,54,55,56,57,58,59,60,61,62,63] []))) (.dr (.ops r18 false) [64] []))))
def l2:AL:=(.seq (.ops CM false) (.seq (.cond 39 .skip (.exit 3)) (.seq (.block 4 (.seq (.dr (.ops r12 false) [39,40] []) (.seq (.dr (.ops C1 false) [41] []) (.seq (.seq (.dr (.ops r14 false) [42] []) (.block 5 (.loop l3))) (.dr (.ops r19 false) [9,10,43,44,45,65,66,67,68] []))))) (.dr (.ops r20 false) [69] []))))
def l1:AL:=(.seq (.ops r7 false) (.seq (.cond 32 .skip (.exit 1)) (.seq (.block 2 (.seq (.dr (.ops r8 false) [32,33] []) (.seq (.ops r9 false) (.seq (.seq (.dr (.ops CH false) [34,35,36] []) (.block 3 (.loop l2))) (.dr (.ops r21 false) [7,8,37,38,39,70,71,72,73] []))))) (.dr (.ops r22 false) [74] []))))
def c:AL:=(.seq (.dr (.ops r0 false) [4,5] []) (.seq (.block 0 (.seq (.dr (.ops r1 false) [13,14,15,16,17,18,19,20] []) (.cond 12 (.seq (.dr (.ops r2 false) [0,1,12] []) .ret) (.seq (.dr (.ops r3 false) [12,22,23,24,25,26,27,28] []) (.cond 21 (.seq (.dr (.ops r4 false) [0,1,21] []) .ret) .skip))))) (.seq (.dr (.ops r5 false) [21] []) (.seq (.seq (.dr (.ops r6 false) [29] []) (.block 1 (.loop l1))) (.seq (.dr (.ops r23 false) [0,1,6,30,31,32,75] []) .ret)))))
end LN
def LN:AFn:=⟨2,LN.c,[.tmp 4,.tmp 5],false⟩
structure R09GLib (L:Lib):Prop extends RefHLib L where
 LO:L 239=some F.LO
 LM:L 240=some F.LM
 LN:L 241=some F.LN
end Go.Eng.F
