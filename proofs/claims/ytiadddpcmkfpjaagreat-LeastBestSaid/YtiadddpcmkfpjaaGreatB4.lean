/-
  Functions of the program, as the abstract machine reads them (group RatG). Written by a program (gen.py) off the model's own reading of the translation; the seat's check ties them to it.
-/
import Derived.Test.YtiadddpcmkfpjaaGreatB1
import Derived.Test.YtiadddpcmkfpjaaGreatB3
set_option linter.unusedSimpArgs false
set_option linter.unusedVariables false
set_option linter.unnecessarySimpa false
namespace Go.Eng.F
open C
namespace integer_signed
def r0:List AI:=[o 4 (.alloc 83004 [(.bool false),.nil])]
def r1:List AI:=[m 5 0,m 6 5,g 7 6 true (.mov 1),g 8 6 true (.len 7),g 9 6 true (.bin .gtr 8 (k 0)),o 10 (.pick 6 9 (.c (.bool false))),m 11 1,
 o 12 (.build [(.bool false),.nil] [(0,1,10),(1,1,11)]),n (.st 2 4 12)]
def c:ACode:=(.seq (.ops r0 false) (.seq (.dr (.ops r1 false) [0,1,5,6,7,8,9,10,11,12] []) .ret))
end integer_signed
def integer_signed:AFn:=⟨2,integer_signed.c,[.cell 4 true 2],false⟩
namespace integer_Trim
def r0:List AI:=[o 1 (.box 1 0),o 2 (.alloc 2 [(.bool false),.nil])]
def r1:List AI:=[o 3 (.fadr 1 0),o 4 (.ld false 1 3),o 5 (.fadr 1 1),o 6 (.ld false 1 5),o 7 (.call 66 [6]),o 8 (.calli 83 [4,7]),n (.st 2 2 8)]
def c:ACode:=(.seq (.dr (.ops r0 false) [0] []) (.seq (.dr (.ops r1 true) [1,3,4,5,6,7,8] []) .ret))
end integer_Trim
def integer_Trim:AFn:=⟨1,integer_Trim.c,[.cell 2 true 2],false⟩
namespace integer_Of
def r0:List AI:=[o 2 (.alloc 2 [(.bool false),.nil])]
def r1:List AI:=[m 4 0,o 5 (.conv .u64 4),m 3 5]
def r2:List AI:=[m 6 0,o 7 (.bin .lss 6 (k 0))]
def r3:List AI:=[m 8 3,o 9 (.un .neg 8),m 3 9]
def r4:List AI:=[m 10 0,o 11 (.bin .lss 10 (k 0)),m 12 3,o 13 (.conv .u32 12),m 14 3,o 15 (.bin .shr 14 (.c (.int .u64 (32)))),o 16 (.conv .u32 15),
 o 17 (.bslice 17 1 [13,16]),o 18 (.call 66 [17]),o 19 (.calli 83 [11,18]),n (.st 2 2 19)]
def c:ACode:=(.seq (.ops r0 false) (.seq (.dr (.ops r1 false) [4,5] []) (.seq (.seq (.dr (.ops r2 false) [6] []) (.cond 7 (.dr (.ops r3 false) [7,8,9] []) .skip)) (.seq (.dr (.ops r4 false) [0,3,7,10,11,12,13,14,15,16,17,18,19] []) .ret))))
end integer_Of
def integer_Of:AFn:=⟨1,integer_Of.c,[.cell 2 true 2],false⟩
namespace integer_Sign
def r0:List AI:=[o 1 (.box 1 0),o 2 (.mov (k 0))]
def r1:List AI:=[o 4 (.fadr 1 1),o 5 (.ld false 1 4),o 6 (.call 67 [5,(.c .nil)]),o 7 (.bin .eql 6 (k 0)),m 3 7]
def r2:List AI:=[o 2 (.mov (k 0))]
def r3:List AI:=[o 9 (.fadr 1 0),o 10 (.ld false 1 9),m 8 10]
def r4:List AI:=[o 2 (.mov (k (-1)))]
def r5:List AI:=[o 2 (.mov (k 1))]
def c:ACode:=(.seq (.dr (.ops r0 false) [0,2] []) (.seq (.block 0 (.seq (.dr (.ops r1 false) [4,5,6,7] []) (.cond 3 (.seq (.dr (.ops r2 false) [1,3] []) .ret) (.seq (.dr (.ops r3 false) [1,3,9,10] []) (.cond 8 (.seq (.dr (.ops r4 false) [8] []) .ret) .skip))))) (.seq (.dr (.ops r5 false) [8] []) .ret)))
end integer_Sign
def integer_Sign:AFn:=⟨1,integer_Sign.c,[.tmp 2],false⟩
namespace integer_Add
def r0:List AI:=[o 2 (.box 2 0),o 3 (.box 3 1),o 4 (.alloc 4 [(.bool false),.nil])]
def r1:List AI:=[o 5 (.fadr 2 0),o 6 (.ld false 1 5),o 7 (.fadr 3 0),o 8 (.ld false 1 7),o 9 (.beq false 6 8)]
def r2:List AI:=[o 10 (.fadr 2 0),o 11 (.ld false 1 10),o 12 (.fadr 2 1),o 13 (.ld false 1 12),o 14 (.fadr 3 1),o 15 (.ld false 1 14),o 16 (.call 68 [13,15]),
 o 17 (.calli 83 [11,16]),n (.st 2 4 17)]
def r3:List AI:=[o 18 (.fadr 2 1),o 19 (.ld false 1 18),o 20 (.fadr 3 1),o 21 (.ld false 1 20),o 22 (.call 67 [19,21]),o 23 (.bin .eql 22 (k (-1)))]
def r4:List AI:=[o 24 (.fadr 3 0),o 25 (.ld false 1 24),o 26 (.fadr 3 1),o 27 (.ld false 1 26),o 28 (.fadr 2 1),o 29 (.ld false 1 28),o 30 (.call 69 [27,29]),
 o 31 (.calli 83 [25,30]),n (.st 2 4 31)]
def r5:List AI:=[o 32 (.fadr 2 0),o 33 (.ld false 1 32),o 34 (.fadr 2 1),o 35 (.ld false 1 34),o 36 (.fadr 3 1),o 37 (.ld false 1 36),o 38 (.call 69 [35,37]),
 o 39 (.calli 83 [33,38]),n (.st 2 4 39)]
def c:ACode:=(.seq (.dr (.ops r0 false) [0,1] []) (.seq (.seq (.dr (.ops r1 false) [5,6,7,8] []) (.cond 9 (.seq (.dr (.ops r2 true) [2,3,9,10,11,12,13,14,15,16,17] []) .ret) .skip)) (.seq (.seq (.dr (.ops r3 false) [9,18,19,20,21,22] []) (.cond 23 (.seq (.dr (.ops r4 true) [2,3,23,24,25,26,27,28,29,30,31] []) .ret) .skip)) (.seq (.dr (.ops r5 true) [2,3,23,32,33,34,35,36,37,38,39] []) .ret))))
end integer_Add
def integer_Add:AFn:=⟨2,integer_Add.c,[.cell 4 true 2],false⟩
namespace integer_Mul
def r0:List AI:=[o 2 (.box 2 0),o 3 (.box 3 1),o 4 (.alloc 4 [(.bool false),.nil])]
def r1:List AI:=[o 5 (.fadr 2 0),o 6 (.ld false 1 5),o 7 (.fadr 3 0),o 8 (.ld false 1 7),o 9 (.beq true 6 8),o 10 (.fadr 2 1),o 11 (.ld false 1 10),o 12 (.fadr 3 1),
 o 13 (.ld false 1 12),o 14 (.call 70 [11,13]),o 15 (.calli 83 [9,14]),n (.st 2 4 15)]
def c:ACode:=(.seq (.dr (.ops r0 false) [0,1] []) (.seq (.dr (.ops r1 true) [2,3,5,6,7,8,9,10,11,12,13,14,15] []) .ret))
end integer_Mul
def integer_Mul:AFn:=⟨2,integer_Mul.c,[.cell 4 true 2],false⟩
namespace rational_read
def r0:List AI:=[o 1 (.box 1 0),o 2 (.alloc 2 [(.bool false),.nil,.nil,(.bool false)])]
def r1:List AI:=[o 3 (.fadr 1 2),o 4 (.ld false 1 3),o 5 (.len 4),o 6 (.bin .eql 5 (k 1)),m 7 6,g 8 7 true (.fadr 1 2),g 9 7 true (.ld false 1 8),
 g 10 7 true (.iadr none 1 9 (k 0)),g 11 7 true (.ld false 1 10),g 12 7 true (.bin .eql 11 (.c (.int .u32 (1)))),o 13 (.pick 7 12 (.c (.bool false)))]
def r2:List AI:=[o 14 (.fadr 1 0),o 15 (.ld true 2 14),o 16 (.fadr 1 2),o 17 (.ld false 1 16),o 18 (.build [(.bool false),.nil,.nil] [(0,2,15),(2,1,17)]),
 o 19 (.build [(.bool false),.nil,.nil,(.bool false)] [(0,3,18),(3,1,(.c (.bool true)))]),n (.st 4 2 19)]
def r3:List AI:=[o 20 (.fadr 1 2),o 21 (.ld false 1 20),o 22 (.call 67 [21,(.c .nil)]),o 23 (.bin .eql 22 (k 0))]
def r4:List AI:=[o 24 (.build [(.bool false),.nil] []),o 25 (.bslice 25 1 [(.c (.int .u32 (1)))]),o 26 (.build [(.bool false),.nil,.nil] [(0,2,24),(2,1,25)]),
 o 27 (.build [(.bool false),.nil,.nil,(.bool false)] [(0,3,26),(3,1,(.c (.bool true)))]),n (.st 4 2 27)]
def r5:List AI:=[o 28 (.fadr 1 0),o 29 (.ld true 2 28),o 30 (.fadr 1 2),o 31 (.ld false 1 30),o 32 (.build [(.bool false),.nil,.nil] [(0,2,29),(2,1,31)]),
 o 33 (.build [(.bool false),.nil,.nil,(.bool false)] [(0,3,32),(3,1,(.c (.bool false)))]),n (.st 4 2 33)]
def c:ACode:=(.seq (.dr (.ops r0 false) [0] []) (.seq (.seq (.dr (.ops r1 false) [3,4,5,6,7,8,9,10,11,12] []) (.cond 13 (.seq (.dr (.ops r2 false) [1,13,14,15,16,17,18,19] []) .ret) .skip)) (.seq (.seq (.dr (.ops r3 false) [13,20,21,22] []) (.cond 23 (.seq (.dr (.ops r4 false) [1,23,24,25,26,27] []) .ret) .skip)) (.seq (.dr (.ops r5 false) [1,23,28,29,30,31,32,33] []) .ret))))
end rational_read
def rational_read:AFn:=⟨1,rational_read.c,[.cell 2 true 4],false⟩
namespace rational_isOne
def r0:List AI:=[o 2 (.mov (.c (.bool false)))]
def r1:List AI:=[m 3 0,o 4 (.len 3),o 5 (.bin .eql 4 (k 1)),m 6 5,g 7 6 true (.mov 0),g 8 6 true (.iadr none 1 7 (k 0)),g 9 6 true (.ld false 1 8),
 g 10 6 true (.bin .eql 9 (.c (.int .u32 (1)))),o 11 (.pick 6 10 (.c (.bool false))),m 2 11]
def c:ACode:=(.seq (.dr (.ops r0 false) [2] []) (.seq (.dr (.ops r1 false) [0,3,4,5,6,7,8,9,10,11] []) .ret))
end rational_isOne
def rational_isOne:AFn:=⟨1,rational_isOne.c,[.tmp 2],false⟩
namespace rational_natural
def r0:List AI:=[o 2 (.alloc 2 [(.bool false),.nil])]
def r1:List AI:=[m 3 0,o 4 (.build [(.bool false),.nil] [(1,1,3)]),n (.st 2 2 4)]
def c:ACode:=(.seq (.ops r0 false) (.seq (.dr (.ops r1 false) [0,3,4] []) .ret))
end rational_natural
def rational_natural:AFn:=⟨1,rational_natural.c,[.cell 2 true 2],false⟩
namespace rational_whole
def r0:List AI:=[o 1 (.box 92001 0),o 2 (.alloc 92002 [(.bool false),.nil,.nil])]
def r1:List AI:=[o 3 (.ld true 2 1),o 4 (.bslice 92004 1 [(.c (.int .u32 (1)))]),o 5 (.build [(.bool false),.nil,.nil] [(0,2,3),(2,1,4)]),n (.st 3 2 5)]
def c:ACode:=(.seq (.dr (.ops r0 false) [0] []) (.seq (.dr (.ops r1 false) [1,3,4,5] []) .ret))
end rational_whole
def rational_whole:AFn:=⟨1,rational_whole.c,[.cell 2 true 3],false⟩
namespace rational_quotient
def r0:List AI:=[o 2 (.box 93002 0),o 3 (.box 93003 1),o 4 (.alloc 93004 [(.bool false),.nil,.nil])]
def r1:List AI:=[o 5 (.fadr 2 0),o 6 (.ld false 1 5),o 7 (.fadr 3 0),o 8 (.ld false 1 7),o 9 (.beq true 6 8),o 10 (.fadr 2 1),o 11 (.ld false 1 10),
 o 12 (.build [(.bool false),.nil] [(0,1,9),(1,1,11)]),o 13 (.fadr 3 1),o 14 (.ld false 1 13),
 o 15 (.build [(.bool false),.nil,.nil] [(0,2,12),(2,1,14)]),n (.st 3 4 15)]
def c:ACode:=(.seq (.dr (.ops r0 false) [0,1] []) (.seq (.dr (.ops r1 false) [2,3,5,6,7,8,9,10,11,12,13,14,15] []) .ret))
end rational_quotient
def rational_quotient:AFn:=⟨2,rational_quotient.c,[.cell 4 true 3],false⟩
namespace rational_pair_lowest
def r0:List AI:=[o 1 (.box 1 0),o 2 (.alloc 2 [(.bool false),.nil,.nil])]
def r1:List AI:=[o 14 (.fadr 1 0),o 15 (.fadr 14 1),o 16 (.ld false 1 15),o 17 (.fadr 1 2),o 18 (.ld false 1 17),o 19 (.call 75 [16,18]),m 13 19,o 20 (.ext 13 0),
 o 21 (.ext 13 1),o 22 (.ext 13 2),m 3 20,m 4 21,m 5 22]
def r2:List AI:=[m 23 4,o 24 (.len 23),o 25 (.bin .eql 24 (k 0))]
def r3:List AI:=[o 26 (.fadr 1 0),o 27 (.fadr 26 0),o 28 (.ld false 1 27),m 29 3,o 30 (.build [(.bool false),.nil] [(0,1,28),(1,1,29)]),o 31 (.call 84 [30]),
 o 32 (.calli 92 [31]),n (.st 3 2 32)]
def r4:List AI:=[o 33 (.fadr 1 2),o 34 (.ld false 1 33),m 35 4,o 36 (.call 82 [34,35]),m 6 36]
def r5:List AI:=[m 37 6,o 38 (.call 90 [37])]
def r6:List AI:=[o 39 (.fadr 1 0),o 40 (.ld true 2 39),o 41 (.call 84 [40]),o 42 (.fadr 1 2),o 43 (.ld false 1 42),o 44 (.call 66 [43]),
 o 45 (.build [(.bool false),.nil,.nil] [(0,2,41),(2,1,44)]),n (.st 3 2 45)]
def r7:List AI:=[o 47 (.fadr 1 0),o 48 (.fadr 47 1),o 49 (.ld false 1 48),m 50 6,o 51 (.call 75 [49,50]),m 46 51,o 52 (.ext 46 0),o 53 (.ext 46 1),o 54 (.ext 46 2),
 m 7 52,m 8 53,m 9 54]
def r8:List AI:=[o 56 (.fadr 1 2),o 57 (.ld false 1 56),m 58 6,o 59 (.call 75 [57,58]),m 55 59,o 60 (.ext 55 0),o 61 (.ext 55 1),o 62 (.ext 55 2),m 10 60,m 11 61,
 m 12 62]
def r9:List AI:=[o 63 (.fadr 1 0),o 64 (.fadr 63 0),o 65 (.ld false 1 64),m 66 7,o 67 (.build [(.bool false),.nil] [(0,1,65),(1,1,66)]),m 68 10,
 o 69 (.build [(.bool false),.nil,.nil] [(0,2,67),(2,1,68)]),n (.st 3 2 69)]
def c:ACode:=(.seq (.dr (.ops r0 false) [0] []) (.seq (.dr (.ops r1 false) [5,13,14,15,16,17,18,19,20,21,22] []) (.seq (.seq (.dr (.ops r2 false) [23,24] []) (.cond 25 (.seq (.dr (.ops r3 false) [1,3,4,25,26,27,28,29,30,31,32] []) .ret) .skip)) (.seq (.dr (.ops r4 false) [3,4,25,33,34,35,36] []) (.seq (.seq (.dr (.ops r5 false) [37] []) (.cond 38 (.seq (.dr (.ops r6 true) [1,6,38,39,40,41,42,43,44,45] []) .ret) .skip)) (.seq (.dr (.ops r7 false) [8,9,38,46,47,48,49,50,51,52,53,54] []) (.seq (.dr (.ops r8 false) [6,11,12,55,56,57,58,59,60,61,62] []) (.seq (.dr (.ops r9 false) [1,7,10,63,64,65,66,67,68,69] []) .ret))))))))
end rational_pair_lowest
def rational_pair_lowest:AFn:=⟨1,rational_pair_lowest.c,[.cell 2 true 3],false⟩
namespace rational_Trim
def r0:List AI:=[o 1 (.box 1 0),o 2 (.alloc 2 [(.bool false),.nil,.nil])]
def r1:List AI:=[o 3 (.ld true 3 1),o 4 (.callq 89 [3]),o 5 (.fld 4 0 3 true),o 6 (.call 94 [5]),n (.st 3 2 6)]
def c:ACode:=(.seq (.dr (.ops r0 false) [0] []) (.seq (.dr (.ops r1 false) [1,3,4,5,6] []) .ret))
end rational_Trim
def rational_Trim:AFn:=⟨1,rational_Trim.c,[.cell 2 true 3],false⟩
namespace rational_Of
def r0:List AI:=[o 2 (.alloc 2 [(.bool false),.nil,.nil])]
def r1:List AI:=[m 3 0,o 4 (.call 85 [3]),o 5 (.calli 92 [4]),n (.st 3 2 5)]
def c:ACode:=(.seq (.ops r0 false) (.seq (.dr (.ops r1 false) [0,3,4,5] []) .ret))
end rational_Of
def rational_Of:AFn:=⟨1,rational_Of.c,[.cell 2 true 3],false⟩
namespace rational_Sign
def r0:List AI:=[o 1 (.box 1 0),o 2 (.mov (k 0))]
def r1:List AI:=[o 3 (.ld true 3 1),o 4 (.callq 89 [3]),o 5 (.fld 4 0 3 true),o 6 (.fld 5 0 2 true),o 7 (.call 86 [6]),m 2 7]
def c:ACode:=(.seq (.dr (.ops r0 false) [0,2] []) (.seq (.dr (.ops r1 false) [1,3,4,5,6,7] []) .ret))
end rational_Sign
def rational_Sign:AFn:=⟨1,rational_Sign.c,[.tmp 2],false⟩
namespace rational_Add
def r0:List AI:=[o 2 (.box 2 0),o 3 (.box 3 1),o 4 (.alloc 4 [(.bool false),.nil,.nil])]
def r1:List AI:=[⟨some 8,.ld true 3 2,none,[5,6]⟩,⟨some 9,.callq 89 [8],none,[5,6]⟩,⟨some 10,.ld true 3 3,none,[5,6]⟩,⟨some 11,.callq 89 [10],none,[5,6]⟩,
 o 5 (.alloc 5 [(.bool false),.nil,.nil,(.bool false)]),o 6 (.alloc 6 [(.bool false),.nil,.nil,(.bool false)]),n (.st 4 5 9),n (.st 4 6 11)]
def r2:List AI:=[o 12 (.fadr 5 3),o 13 (.ld false 1 12),m 14 13,g 15 14 true (.fadr 6 3),g 16 14 true (.ld false 1 15),o 17 (.pick 14 16 (.c (.bool false)))]
def r3:List AI:=[o 18 (.fadr 5 0),o 19 (.fadr 18 0),o 20 (.ld true 2 19),o 21 (.fadr 6 0),o 22 (.fadr 21 0),o 23 (.ld true 2 22),o 24 (.call 87 [20,23]),
 o 25 (.calli 92 [24]),n (.st 3 4 25)]
def r4:List AI:=[o 26 (.fadr 5 0),o 27 (.fadr 26 2),o 28 (.ld false 1 27),o 29 (.fadr 6 0),o 30 (.fadr 29 2),o 31 (.ld false 1 30),o 32 (.call 67 [28,31]),
 o 33 (.bin .eql 32 (k 0))]
def r5:List AI:=[o 34 (.fadr 5 0),o 35 (.fadr 34 0),o 36 (.ld true 2 35),o 37 (.fadr 6 0),o 38 (.fadr 37 0),o 39 (.ld true 2 38),o 40 (.call 87 [36,39]),
 o 41 (.fadr 5 0),o 42 (.fadr 41 2),o 43 (.ld false 1 42),o 44 (.build [(.bool false),.nil,.nil] [(0,2,40),(2,1,43)]),o 45 (.call 94 [44]),
 n (.st 3 4 45)]
def r6:List AI:=[o 46 (.fadr 5 0),o 47 (.fadr 46 0),⟨some 48,.ld true 2 47,none,[7]⟩,o 49 (.fadr 6 0),o 50 (.fadr 49 2),⟨some 51,.ld false 1 50,none,[7]⟩,
 ⟨some 52,.callq 91 [51],none,[7]⟩,⟨some 53,.call 88 [48,52],none,[7]⟩,o 54 (.fadr 6 0),o 55 (.fadr 54 0),⟨some 56,.ld true 2 55,none,[7]⟩,
 o 57 (.fadr 5 0),o 58 (.fadr 57 2),⟨some 59,.ld false 1 58,none,[7]⟩,⟨some 60,.callq 91 [59],none,[7]⟩,⟨some 61,.call 88 [56,60],none,[7]⟩,
 ⟨some 62,.call 87 [53,61],none,[7]⟩,o 7 (.alloc 7 [(.bool false),.nil]),n (.st 2 7 62)]
def r7:List AI:=[o 63 (.ld true 2 7),o 64 (.fadr 5 0),o 65 (.fadr 64 2),o 66 (.ld false 1 65),o 67 (.fadr 6 0),o 68 (.fadr 67 2),o 69 (.ld false 1 68),
 o 70 (.call 70 [66,69]),o 71 (.build [(.bool false),.nil,.nil] [(0,2,63),(2,1,70)]),o 72 (.call 94 [71]),n (.st 3 4 72)]
def c:ACode:=(.seq (.dr (.ops r0 false) [0,1] []) (.seq (.dr (.ops r1 true) [2,3,8,9,10,11] []) (.seq (.seq (.dr (.ops r2 false) [12,13,14,15,16] []) (.cond 17 (.seq (.dr (.ops r3 false) [5,6,17,18,19,20,21,22,23,24,25] []) .ret) .skip)) (.seq (.seq (.dr (.ops r4 false) [17,26,27,28,29,30,31,32] []) (.cond 33 (.seq (.dr (.ops r5 true) [5,6,33,34,35,36,37,38,39,40,41,42,43,44,45] []) .ret) .skip)) (.seq (.dr (.ops r6 true) [33,46,47,48,49,50,51,52,53,54,55,56,57,58,59,60,61,62] []) (.seq (.dr (.ops r7 true) [5,6,7,63,64,65,66,67,68,69,70,71,72] []) .ret))))))
end rational_Add
def rational_Add:AFn:=⟨2,rational_Add.c,[.cell 4 true 3],false⟩
namespace rational_Mul
def r0:List AI:=[o 2 (.box 2 0),o 3 (.box 3 1),o 4 (.alloc 4 [(.bool false),.nil,.nil])]
def r1:List AI:=[⟨some 8,.ld true 3 2,none,[5,6]⟩,⟨some 9,.callq 89 [8],none,[5,6]⟩,⟨some 10,.ld true 3 3,none,[5,6]⟩,⟨some 11,.callq 89 [10],none,[5,6]⟩,
 o 5 (.alloc 5 [(.bool false),.nil,.nil,(.bool false)]),o 6 (.alloc 6 [(.bool false),.nil,.nil,(.bool false)]),n (.st 4 5 9),n (.st 4 6 11)]
def r2:List AI:=[o 12 (.fadr 5 0),o 13 (.fadr 12 0),o 14 (.ld true 2 13),o 15 (.fadr 6 0),o 16 (.fadr 15 0),o 17 (.ld true 2 16),o 18 (.call 88 [14,17]),
 o 7 (.alloc 7 [(.bool false),.nil]),n (.st 2 7 18)]
def r3:List AI:=[o 19 (.fadr 5 3),o 20 (.ld false 1 19),m 21 20,g 22 21 true (.fadr 6 3),g 23 21 true (.ld false 1 22),o 24 (.pick 21 23 (.c (.bool false)))]
def r4:List AI:=[o 25 (.ld true 2 7),o 26 (.calli 92 [25]),n (.st 3 4 26)]
def r5:List AI:=[o 27 (.ld true 2 7),o 28 (.fadr 5 0),o 29 (.fadr 28 2),o 30 (.ld false 1 29),o 31 (.fadr 6 0),o 32 (.fadr 31 2),o 33 (.ld false 1 32),
 o 34 (.call 70 [30,33]),o 35 (.build [(.bool false),.nil,.nil] [(0,2,27),(2,1,34)]),o 36 (.call 94 [35]),n (.st 3 4 36)]
def c:ACode:=(.seq (.dr (.ops r0 false) [0,1] []) (.seq (.dr (.ops r1 true) [2,3,8,9,10,11] []) (.seq (.dr (.ops r2 false) [12,13,14,15,16,17,18] []) (.seq (.seq (.dr (.ops r3 false) [19,20,21,22,23] []) (.cond 24 (.seq (.dr (.ops r4 false) [5,6,7,24,25,26] []) .ret) .skip)) (.seq (.dr (.ops r5 true) [5,6,7,24,27,28,29,30,31,32,33,34,35,36] []) .ret)))))
end rational_Mul
def rational_Mul:AFn:=⟨2,rational_Mul.c,[.cell 4 true 3],false⟩
namespace rational_Div
def r0:List AI:=[o 2 (.box 2 0),o 3 (.box 3 1),o 4 (.alloc 4 [(.bool false),.nil,.nil]),o 5 (.mov (k 0))]
def r1:List AI:=[⟨some 10,.ld true 3 2,none,[6,7]⟩,⟨some 11,.callq 89 [10],none,[6,7]⟩,⟨some 12,.ld true 3 3,none,[6,7]⟩,⟨some 13,.callq 89 [12],none,[6,7]⟩,
 o 6 (.alloc 6 [(.bool false),.nil,.nil,(.bool false)]),o 7 (.alloc 7 [(.bool false),.nil,.nil,(.bool false)]),n (.st 4 6 11),n (.st 4 7 13)]
def r2:List AI:=[o 14 (.fadr 7 0),o 15 (.fadr 14 0),o 16 (.ld true 2 15),o 17 (.call 86 [16]),o 18 (.bin .eql 17 (k 0))]
def r3:List AI:=[o 19 (.build [(.bool false),.nil,.nil] []),n (.st 3 4 19),o 5 (.mov (k 3))]
def r4:List AI:=[o 20 (.fadr 6 0),o 21 (.fadr 20 0),⟨some 22,.ld true 2 21,none,[8]⟩,o 23 (.fadr 7 0),o 24 (.fadr 23 2),⟨some 25,.ld false 1 24,none,[8]⟩,
 ⟨some 26,.callq 91 [25],none,[8]⟩,⟨some 27,.call 88 [22,26],none,[8]⟩,o 8 (.alloc 8 [(.bool false),.nil]),n (.st 2 8 27)]
def r5:List AI:=[o 28 (.fadr 6 0),o 29 (.fadr 28 2),⟨some 30,.ld false 1 29,none,[9]⟩,⟨some 31,.callq 91 [30],none,[9]⟩,o 32 (.fadr 7 0),o 33 (.fadr 32 0),
 ⟨some 34,.ld true 2 33,none,[9]⟩,⟨some 35,.call 88 [31,34],none,[9]⟩,o 9 (.alloc 9 [(.bool false),.nil]),n (.st 2 9 35)]
def r6:List AI:=[o 36 (.ld true 2 8),o 37 (.ld true 2 9),o 38 (.calli 93 [36,37]),o 39 (.call 94 [38]),n (.st 3 4 39),o 5 (.mov (k 0))]
def c:ACode:=(.seq (.dr (.ops r0 false) [0,1,5] []) (.seq (.dr (.ops r1 true) [2,3,10,11,12,13] []) (.seq (.seq (.dr (.ops r2 false) [14,15,16,17] []) (.cond 18 (.seq (.dr (.ops r3 false) [6,7,18,19] []) .ret) .skip)) (.seq (.dr (.ops r4 true) [18,20,21,22,23,24,25,26,27] []) (.seq (.dr (.ops r5 true) [6,7,28,29,30,31,32,33,34,35] []) (.seq (.dr (.ops r6 false) [8,9,36,37,38,39] []) .ret))))))
end rational_Div
def rational_Div:AFn:=⟨2,rational_Div.c,[.cell 4 true 3,.tmp 5],false⟩
structure RatGLib (L:Lib):Prop extends NatGLib L where
 integer_signed:L 83=some F.integer_signed
 integer_Trim:L 84=some F.integer_Trim
 integer_Of:L 85=some F.integer_Of
 integer_Sign:L 86=some F.integer_Sign
 integer_Add:L 87=some F.integer_Add
 integer_Mul:L 88=some F.integer_Mul
 rational_read:L 89=some F.rational_read
 rational_isOne:L 90=some F.rational_isOne
 rational_natural:L 91=some F.rational_natural
 rational_whole:L 92=some F.rational_whole
 rational_quotient:L 93=some F.rational_quotient
 rational_pair_lowest:L 94=some F.rational_pair_lowest
 rational_Trim:L 95=some F.rational_Trim
 rational_Of:L 96=some F.rational_Of
 rational_Sign:L 97=some F.rational_Sign
 rational_Add:L 98=some F.rational_Add
 rational_Mul:L 99=some F.rational_Mul
 rational_Div:L 100=some F.rational_Div
end Go.Eng.F
namespace Go.Eng.F
open C
namespace ref01_Trim
def r0:List AI:=[o 2 (.mov (.c .nil))]
def r1:List AI:=[m 4 0,o 5 (.len 4),m 3 5]
def r2:List AI:=[m 6 3,o 7 (.bin .gtr 6 (k 0)),m 8 7,g 9 8 true (.mov 0),g 10 8 true (.mov 3),g 11 8 true (.bin .sub 10 (k 1)),g 12 8 true (.iadr none 1 9 11),
 g 13 8 true (.ld false 1 12),g 14 8 true (.bin .eql 13 (.c (.int .u32 (0)))),o 15 (.pick 8 14 (.c (.bool false)))]
def r3:List AI:=[m 16 3,o 17 (.bin .sub 16 (k 1)),m 3 17]
def r4:List AI:=[m 18 0,m 19 3,o 20 (.slc 1 18 none (some 19)),o 21 (.app 101021 1 4 (.c .nil) 20),m 2 21]
def l1:ACode:=(.seq (.seq (.dr (.ops r2 false) [6,7,8,9,10,11,12,13,14] []) (.cond 15 .skip (.exit 0))) (.block 1 (.dr (.ops r3 false) [15,16,17] [])))
def c:ACode:=(.seq (.dr (.ops r0 false) [2] []) (.seq (.dr (.ops r1 false) [4,5] []) (.seq (.block 0 (.loop l1)) (.seq (.dr (.ops r4 false) [0,3,15,18,19,20,21] []) .ret))))
end ref01_Trim
def ref01_Trim:AFn:=⟨1,ref01_Trim.c,[.tmp 2],false⟩
namespace ref01_Compare
def r0:List AI:=[o 4 (.mov (k 0))]
def r1:List AI:=[m 6 0,o 7 (.call 101 [6]),m 8 1,o 9 (.call 101 [8]),m 0 7,m 1 9]
def r2:List AI:=[m 10 0,o 11 (.len 10),m 12 1,o 13 (.len 12),o 14 (.bin .neq 11 13)]
def r3:List AI:=[m 15 0,o 16 (.len 15),m 17 1,o 18 (.len 17),o 19 (.bin .lss 16 18)]
def r4:List AI:=[o 4 (.mov (k (-1)))]
def r5:List AI:=[o 4 (.mov (k 1))]
def r6:List AI:=[m 20 0,o 21 (.len 20),o 22 (.bin .sub 21 (k 1)),m 5 22]
def r7:List AI:=[m 23 5,o 24 (.bin .geq 23 (k 0))]
def r9:List AI:=[m 27 0,m 28 5,o 29 (.iadr none 1 27 28),o 30 (.ld false 1 29),m 31 1,m 32 5,o 33 (.iadr none 1 31 32),o 34 (.ld false 1 33),o 35 (.bin .lss 30 34)]
def r10:List AI:=[o 4 (.mov (k (-1)))]
def r11:List AI:=[m 36 0,m 37 5,o 38 (.iadr none 1 36 37),o 39 (.ld false 1 38),m 40 1,m 41 5,o 42 (.iadr none 1 40 41),o 43 (.ld false 1 42),o 44 (.bin .gtr 39 43)]
def r12:List AI:=[o 4 (.mov (k 1))]
def r8:List AI:=[m 25 5,o 26 (.bin .sub 25 (k 1)),m 5 26]
def r13:List AI:=[o 4 (.mov (k 0))]
def l1:ACode:=(.seq (.seq (.dr (.ops r7 false) [23] []) (.cond 24 .skip (.exit 0))) (.seq (.block 1 (.seq (.seq (.dr (.ops r9 true) [24,27,28,29,30,31,32,33,34] []) (.cond 35 (.seq (.dr (.ops r10 false) [0,1,5,35] []) .ret) .skip)) (.seq (.dr (.ops r11 true) [35,36,37,38,39,40,41,42,43] []) (.cond 44 (.seq (.dr (.ops r12 false) [0,1,5,44] []) .ret) .skip)))) (.dr (.ops r8 false) [25,26,44] [])))
def c:ACode:=(.seq (.dr (.ops r0 false) [4] []) (.seq (.dr (.ops r1 false) [6,7,8,9] []) (.seq (.seq (.dr (.ops r2 false) [10,11,12,13] []) (.cond 14 (.seq (.seq (.dr (.ops r3 false) [0,1,14,15,16,17,18] []) (.cond 19 (.seq (.dr (.ops r4 false) [19] []) .ret) .skip)) (.seq (.dr (.ops r5 false) [19] []) .ret)) .skip)) (.seq (.seq (.dr (.ops r6 false) [14,20,21,22] []) (.block 0 (.loop l1))) (.seq (.dr (.ops r13 false) [0,1,5,24] []) .ret)))))
end ref01_Compare
def ref01_Compare:AFn:=⟨2,ref01_Compare.c,[.tmp 4],false⟩
namespace ref01_Add
def r0:List AI:=[o 4 (.mov (.c .nil))]
def r1:List AI:=[o 5 (.vrow 5 1)]
def r2:List AI:=[o 6 (.mov (.c (.int .u64 (0))))]
def r3:List AI:=[o 7 (.mov (k 0))]
def r4:List AI:=[m 8 7,m 9 0,o 10 (.len 9),o 11 (.bin .lss 8 10),m 12 11,g 13 12 false (.mov 7),g 14 12 false (.mov 1),g 15 12 false (.len 14),
 g 16 12 false (.bin .lss 13 15),o 17 (.pick 12 (.c (.bool true)) 16)]
def r6:List AI:=[m 20 7,m 21 0,o 22 (.len 21),o 23 (.bin .lss 20 22)]
def r7:List AI:=[m 24 6,m 25 0,m 26 7,o 27 (.iadr none 1 25 26),o 28 (.ld false 1 27),o 29 (.conv .u64 28),o 30 (.bin .add 24 29),m 6 30]
def r8:List AI:=[m 31 7,m 32 1,o 33 (.len 32),o 34 (.bin .lss 31 33)]
def r9:List AI:=[m 35 6,m 36 1,m 37 7,o 38 (.iadr none 1 36 37),o 39 (.ld false 1 38),o 40 (.conv .u64 39),o 41 (.bin .add 35 40),m 6 41]
def r10:List AI:=[m 42 5,m 43 6,o 44 (.conv .u32 43),o 45 (.bslice 45 1 [44]),o 46 (.app 46 1 4 42 45),m 5 46]
def r11:List AI:=[m 47 6,o 48 (.bin .shr 47 (.c (.int .u64 (32)))),m 6 48]
def r5:List AI:=[m 18 7,o 19 (.bin .add 18 (k 1)),m 7 19]
def r12:List AI:=[m 49 5,m 50 6,o 51 (.conv .u32 50),o 52 (.bslice 52 1 [51]),o 53 (.app 53 1 4 49 52),o 54 (.call 101 [53]),m 4 54]
def l1:ACode:=(.seq (.seq (.dr (.ops r4 false) [8,9,10,11,12,13,14,15,16] []) (.cond 17 .skip (.exit 0))) (.seq (.block 1 (.seq (.seq (.dr (.ops r6 false) [17,20,21,22] []) (.cond 23 (.dr (.ops r7 false) [23,24,25,26,27,28,29,30] []) .skip)) (.seq (.seq (.dr (.ops r8 false) [23,31,32,33] []) (.cond 34 (.dr (.ops r9 false) [34,35,36,37,38,39,40,41] []) .skip)) (.seq (.dr (.ops r10 false) [34,42,43,44,45,46] []) (.dr (.ops r11 false) [47,48] []))))) (.dr (.ops r5 false) [18,19] [])))
def c:ACode:=(.seq (.dr (.ops r0 false) [4] []) (.seq (.ops r1 false) (.seq (.ops r2 false) (.seq (.seq (.ops r3 false) (.block 0 (.loop l1))) (.seq (.dr (.ops r12 false) [0,1,5,6,7,17,49,50,51,52,53,54] []) .ret)))))
end ref01_Add
def ref01_Add:AFn:=⟨2,ref01_Add.c,[.tmp 4],false⟩
namespace ref01_Sub
def r0:List AI:=[o 4 (.mov (.c .nil))]
def r1:List AI:=[m 10 0,m 11 1,o 12 (.call 102 [10,11]),o 13 (.bin .lss 12 (k 0))]
def r2:List AI:=[o 4 (.mov (.c .nil))]
def r3:List AI:=[m 14 1,o 15 (.call 101 [14]),m 1 15]
def r4:List AI:=[m 16 0,o 17 (.calli 101 [16]),m 5 17]
def r5:List AI:=[o 6 (.mov (.c (.int .u64 (0))))]
def r6:List AI:=[o 7 (.mov (k 0))]
def r7:List AI:=[m 18 7,m 19 5,o 20 (.len 19),o 21 (.bin .lss 18 20)]
def r9:List AI:=[m 24 6,m 8 24]
def r10:List AI:=[m 25 7,m 26 1,o 27 (.len 26),o 28 (.bin .lss 25 27)]
def r11:List AI:=[m 29 8,m 30 1,m 31 7,o 32 (.iadr none 1 30 31),o 33 (.ld false 1 32),o 34 (.conv .u64 33),o 35 (.bin .add 29 34),m 8 35]
def r12:List AI:=[m 36 5,m 37 7,o 38 (.iadr none 1 36 37),o 39 (.ld false 1 38),o 40 (.conv .u64 39),m 9 40]
def r13:List AI:=[o 6 (.mov (.c (.int .u64 (0))))]
def r14:List AI:=[m 41 9,m 42 8,o 43 (.bin .lss 41 42)]
def r15:List AI:=[m 44 9,o 45 (.bin .add 44 (.c (.int .u64 (4294967296)))),m 9 45]
def r16:List AI:=[o 6 (.mov (.c (.int .u64 (1))))]
def r17:List AI:=[m 46 5,m 47 7,m 48 9,m 49 8,o 50 (.bin .sub 48 49),o 51 (.conv .u32 50),o 52 (.iadr none 1 46 47),n (.st 1 52 51)]
def r8:List AI:=[m 22 7,o 23 (.bin .add 22 (k 1)),m 7 23]
def r18:List AI:=[m 53 5,o 54 (.call 101 [53]),m 4 54]
def l1:ACode:=(.seq (.seq (.dr (.ops r7 false) [18,19,20] []) (.cond 21 .skip (.exit 0))) (.seq (.block 1 (.seq (.dr (.ops r9 false) [6,21,24] []) (.seq (.seq (.dr (.ops r10 false) [25,26,27] []) (.cond 28 (.dr (.ops r11 false) [28,29,30,31,32,33,34,35] []) .skip)) (.seq (.dr (.ops r12 false) [28,36,37,38,39,40] []) (.seq (.ops r13 false) (.seq (.seq (.dr (.ops r14 false) [41,42] []) (.cond 43 (.seq (.dr (.ops r15 false) [6,43,44,45] []) (.ops r16 false)) .skip)) (.dr (.ops r17 false) [8,9,43,46,47,48,49,50,51,52] []))))))) (.dr (.ops r8 false) [22,23] [])))
def c:ACode:=(.seq (.dr (.ops r0 false) [4] []) (.seq (.seq (.dr (.ops r1 false) [10,11,12] []) (.cond 13 (.seq (.dr (.ops r2 false) [0,1,13] []) .ret) .skip)) (.seq (.dr (.ops r3 false) [13,14,15] []) (.seq (.dr (.ops r4 false) [0,16,17] []) (.seq (.ops r5 false) (.seq (.seq (.ops r6 false) (.block 0 (.loop l1))) (.seq (.dr (.ops r18 false) [1,5,6,7,21,53,54] []) .ret)))))))
end ref01_Sub
def ref01_Sub:AFn:=⟨2,ref01_Sub.c,[.tmp 4],false⟩
namespace ref01_Mul
def r0:List AI:=[o 4 (.mov (.c .nil))]
def r1:List AI:=[m 9 0,o 10 (.len 9),m 11 1,o 12 (.len 11),o 13 (.bin .add 10 12),o 14 (.bin .add 13 (k 1)),o 15 (.mk 15 1 4 [(.int .u32 (0))] 14 14),m 5 15]
def r2:List AI:=[o 6 (.mov (k 0))]
def r3:List AI:=[m 16 6,m 17 0,o 18 (.len 17),o 19 (.bin .lss 16 18)]
def r5:List AI:=[o 7 (.mov (.c (.int .u64 (0))))]
def r6:List AI:=[o 8 (.mov (k 0))]
def r7:List AI:=[m 22 8,m 23 1,o 24 (.len 23),o 25 (.bin .lss 22 24)]
def r9:List AI:=[m 28 7,m 29 0,m 30 6,o 31 (.iadr none 1 29 30),o 32 (.ld false 1 31),o 33 (.conv .u64 32),m 34 1,m 35 8,o 36 (.iadr none 1 34 35),
 o 37 (.ld false 1 36),o 38 (.conv .u64 37),o 39 (.bin .mul 33 38),m 40 5,m 41 6,m 42 8,o 43 (.bin .add 41 42),o 44 (.iadr none 1 40 43),
 o 45 (.ld false 1 44),o 46 (.conv .u64 45),o 47 (.bin .add 39 46),o 48 (.bin .add 28 47),m 7 48]
def r10:List AI:=[m 49 5,m 50 6,m 51 8,o 52 (.bin .add 50 51),m 53 7,o 54 (.conv .u32 53),o 55 (.iadr none 1 49 52),n (.st 1 55 54)]
def r11:List AI:=[m 56 7,o 57 (.bin .shr 56 (.c (.int .u64 (32)))),m 7 57]
def r8:List AI:=[m 26 8,o 27 (.bin .add 26 (k 1)),m 8 27]
def r12:List AI:=[m 58 5,m 59 6,m 60 1,o 61 (.len 60),o 62 (.bin .add 59 61),m 63 7,o 64 (.conv .u32 63),o 65 (.iadr none 1 58 62),n (.st 1 65 64)]
def r4:List AI:=[m 20 6,o 21 (.bin .add 20 (k 1)),m 6 21]
def r13:List AI:=[m 66 5,o 67 (.call 101 [66]),m 4 67]
def l2:ACode:=(.seq (.seq (.dr (.ops r7 false) [22,23,24] []) (.cond 25 .skip (.exit 2))) (.seq (.block 3 (.seq (.dr (.ops r9 true) [25,28,29,30,31,32,33,34,35,36,37,38,39,40,41,42,43,44,45,46,47,48] []) (.seq (.dr (.ops r10 false) [49,50,51,52,53,54,55] []) (.dr (.ops r11 false) [56,57] [])))) (.dr (.ops r8 false) [26,27] [])))
def l1:ACode:=(.seq (.seq (.dr (.ops r3 false) [16,17,18] []) (.cond 19 .skip (.exit 0))) (.seq (.block 1 (.seq (.dr (.ops r5 false) [19] []) (.seq (.seq (.ops r6 false) (.block 2 (.loop l2))) (.dr (.ops r12 false) [7,8,25,58,59,60,61,62,63,64,65] [])))) (.dr (.ops r4 false) [20,21] [])))
def c:ACode:=(.seq (.dr (.ops r0 false) [4] []) (.seq (.dr (.ops r1 false) [9,10,11,12,13,14,15] []) (.seq (.seq (.ops r2 false) (.block 0 (.loop l1))) (.seq (.dr (.ops r13 false) [0,1,5,6,19,66,67] []) .ret))))
end ref01_Mul
def ref01_Mul:AFn:=⟨2,ref01_Mul.c,[.tmp 4],false⟩
namespace ref01_BitLen
def r0:List AI:=[o 2 (.mov (k 0))]
def r1:List AI:=[m 5 0,o 6 (.call 101 [5]),m 0 6]
def r2:List AI:=[m 7 0,o 8 (.len 7),o 9 (.bin .eql 8 (k 0))]
def r3:List AI:=[o 2 (.mov (k 0))]
def r4:List AI:=[m 10 0,o 11 (.len 10),o 12 (.bin .sub 11 (k 1)),o 13 (.bin .mul (k 32) 12),m 3 13]
def r5:List AI:=[m 14 0,m 15 0,o 16 (.len 15),o 17 (.bin .sub 16 (k 1)),o 18 (.iadr none 1 14 17),o 19 (.ld false 1 18),m 4 19]
def r6:List AI:=[m 20 4,o 21 (.bin .gtr 20 (.c (.int .u32 (0))))]
def r8:List AI:=[m 24 3,o 25 (.bin .add 24 (k 1)),m 3 25]
def r7:List AI:=[m 22 4,o 23 (.bin .shr 22 (.c (.int .u64 (1)))),m 4 23]
def r9:List AI:=[m 26 3,m 2 26]
def l1:ACode:=(.seq (.seq (.dr (.ops r6 false) [20] []) (.cond 21 .skip (.exit 0))) (.seq (.block 1 (.dr (.ops r8 false) [21,24,25] [])) (.dr (.ops r7 false) [22,23] [])))
def c:ACode:=(.seq (.dr (.ops r0 false) [2] []) (.seq (.dr (.ops r1 false) [5,6] []) (.seq (.seq (.dr (.ops r2 false) [7,8] []) (.cond 9 (.seq (.dr (.ops r3 false) [0,9] []) .ret) .skip)) (.seq (.dr (.ops r4 false) [9,10,11,12,13] []) (.seq (.seq (.dr (.ops r5 false) [0,14,15,16,17,18,19] []) (.block 0 (.loop l1))) (.seq (.dr (.ops r9 false) [3,4,21,26] []) .ret))))))
end ref01_BitLen
def ref01_BitLen:AFn:=⟨1,ref01_BitLen.c,[.tmp 2],false⟩
namespace ref01_Shift
def r0:List AI:=[o 4 (.mov (.c .nil))]
def r1:List AI:=[m 11 0,o 12 (.call 101 [11]),m 0 12]
def r2:List AI:=[m 13 1,o 14 (.bin .gtr 13 (k 65536)),m 15 14,g 16 15 false (.mov 0),g 17 15 false (.len 16),g 18 15 false (.bin .eql 17 (k 0)),
 o 19 (.pick 15 (.c (.bool true)) 18)]
def r3:List AI:=[o 4 (.mov (.c .nil))]
def r4:List AI:=[m 20 1,o 21 (.bin .lss 20 (k 0))]
def r5:List AI:=[m 22 1,m 23 0,o 24 (.len 23),o 25 (.bin .mul (k (-32)) 24),o 26 (.bin .lss 22 25)]
def r6:List AI:=[o 4 (.mov (.c .nil))]
def r7:List AI:=[m 27 1,o 28 (.un .neg 27),m 1 28]
def r8:List AI:=[o 5 (.vrow 107005 1)]
def r9:List AI:=[m 29 1,o 30 (.bin .quo 29 (k 32)),m 6 30]
def r10:List AI:=[m 31 6,m 32 0,o 33 (.len 32),o 34 (.bin .lss 31 33)]
def r12:List AI:=[m 37 0,m 38 6,o 39 (.iadr none 1 37 38),o 40 (.ld false 1 39),o 41 (.conv .u64 40),m 7 41]
def r13:List AI:=[m 42 6,o 43 (.bin .add 42 (k 1)),m 44 0,o 45 (.len 44),o 46 (.bin .lss 43 45)]
def r14:List AI:=[m 47 7,m 48 0,m 49 6,o 50 (.bin .add 49 (k 1)),o 51 (.iadr none 1 48 50),o 52 (.ld false 1 51),o 53 (.conv .u64 52),
 o 54 (.bin .shl 53 (.c (.int .u64 (32)))),o 55 (.bin .or 47 54),m 7 55]
def r15:List AI:=[m 56 5,m 57 7,m 58 1,o 59 (.bin .rem 58 (k 32)),o 60 (.conv .u64 59),o 61 (.bin .shr 57 60),o 62 (.conv .u32 61),o 63 (.bslice 107063 1 [62]),
 o 64 (.app 107064 1 4 56 63),m 5 64]
def r11:List AI:=[m 35 6,o 36 (.bin .add 35 (k 1)),m 6 36]
def r16:List AI:=[m 65 5,o 66 (.call 101 [65]),m 4 66]
def r17:List AI:=[m 67 1,o 68 (.bin .quo 67 (k 32)),o 69 (.mk 107069 1 4 [(.int .u32 (0))] 68 68),m 8 69]
def r18:List AI:=[o 9 (.mov (.c (.int .u64 (0))))]
def r19:List AI:=[o 10 (.mov (k 0))]
def r20:List AI:=[m 70 10,m 71 0,o 72 (.len 71),o 73 (.bin .lss 70 72)]
def r22:List AI:=[m 76 9,m 77 0,m 78 10,o 79 (.iadr none 1 77 78),o 80 (.ld false 1 79),o 81 (.conv .u64 80),m 82 1,o 83 (.bin .rem 82 (k 32)),o 84 (.conv .u64 83),
 o 85 (.bin .shl 81 84),o 86 (.bin .or 76 85),m 9 86]
def r23:List AI:=[m 87 8,m 88 9,o 89 (.conv .u32 88),o 90 (.bslice 107090 1 [89]),o 91 (.app 107091 1 4 87 90),m 8 91]
def r24:List AI:=[m 92 9,o 93 (.bin .shr 92 (.c (.int .u64 (32)))),m 9 93]
def r21:List AI:=[m 74 10,o 75 (.bin .add 74 (k 1)),m 10 75]
def r25:List AI:=[m 94 8,m 95 9,o 96 (.conv .u32 95),o 97 (.bslice 107097 1 [96]),o 98 (.app 107098 1 4 94 97),o 99 (.calli 101 [98]),m 4 99]
def l1:ACode:=(.seq (.seq (.dr (.ops r10 false) [31,32,33] []) (.cond 34 .skip (.exit 0))) (.seq (.block 1 (.seq (.dr (.ops r12 false) [34,37,38,39,40,41] []) (.seq (.seq (.dr (.ops r13 false) [42,43,44,45] []) (.cond 46 (.dr (.ops r14 false) [46,47,48,49,50,51,52,53,54,55] []) .skip)) (.dr (.ops r15 false) [7,46,56,57,58,59,60,61,62,63,64] [])))) (.dr (.ops r11 false) [35,36] [])))
def l2:ACode:=(.seq (.seq (.dr (.ops r20 false) [70,71,72] []) (.cond 73 .skip (.exit 2))) (.seq (.block 3 (.seq (.dr (.ops r22 false) [73,76,77,78,79,80,81,82,83,84,85,86] []) (.seq (.dr (.ops r23 false) [87,88,89,90,91] []) (.dr (.ops r24 false) [92,93] [])))) (.dr (.ops r21 false) [74,75] [])))
def c:ACode:=(.seq (.dr (.ops r0 false) [4] []) (.seq (.dr (.ops r1 false) [11,12] []) (.seq (.seq (.dr (.ops r2 false) [13,14,15,16,17,18] []) (.cond 19 (.seq (.dr (.ops r3 false) [0,1,19] []) .ret) .skip)) (.seq (.seq (.dr (.ops r4 false) [19,20] []) (.cond 21 (.seq (.seq (.dr (.ops r5 false) [21,22,23,24,25] []) (.cond 26 (.seq (.dr (.ops r6 false) [0,1,26] []) .ret) .skip)) (.seq (.dr (.ops r7 false) [26,27,28] []) (.seq (.ops r8 false) (.seq (.seq (.dr (.ops r9 false) [29,30] []) (.block 0 (.loop l1))) (.seq (.dr (.ops r16 false) [0,1,5,6,34,65,66] []) .ret))))) .skip)) (.seq (.dr (.ops r17 false) [21,67,68,69] []) (.seq (.ops r18 false) (.seq (.seq (.ops r19 false) (.block 2 (.loop l2))) (.seq (.dr (.ops r25 false) [0,1,8,9,10,73,94,95,96,97,98,99] []) .ret))))))))
end ref01_Shift
def ref01_Shift:AFn:=⟨2,ref01_Shift.c,[.tmp 4],false⟩
namespace ref01_small
def r0:List AI:=[o 4 (.mov (.c .nil)),o 5 (.mov (.c (.int .u32 (0))))]
def r1:List AI:=[m 9 0,o 10 (.len 9),o 11 (.mk 11 1 4 [(.int .u32 (0))] 10 10),m 6 11]
def r2:List AI:=[o 7 (.mov (.c (.int .u64 (0))))]
def r3:List AI:=[m 12 0,o 13 (.len 12),o 14 (.bin .sub 13 (k 1)),m 8 14]
def r4:List AI:=[m 15 8,o 16 (.bin .geq 15 (k 0))]
def r6:List AI:=[m 19 7,o 20 (.bin .shl 19 (.c (.int .u64 (32)))),m 21 0,m 22 8,o 23 (.iadr none 1 21 22),o 24 (.ld false 1 23),o 25 (.conv .u64 24),
 o 26 (.bin .or 20 25),m 7 26]
def r7:List AI:=[m 27 6,m 28 8,m 29 7,m 30 1,o 31 (.conv .u64 30),o 32 (.bin .quo 29 31),o 33 (.conv .u32 32),o 34 (.iadr none 1 27 28),n (.st 1 34 33)]
def r8:List AI:=[m 35 7,m 36 1,o 37 (.conv .u64 36),o 38 (.bin .rem 35 37),m 7 38]
def r5:List AI:=[m 17 8,o 18 (.bin .sub 17 (k 1)),m 8 18]
def r9:List AI:=[m 39 6,o 40 (.call 101 [39]),m 41 7,o 42 (.conv .u32 41),m 4 40,m 5 42]
def l1:ACode:=(.seq (.seq (.dr (.ops r4 false) [15] []) (.cond 16 .skip (.exit 0))) (.seq (.block 1 (.seq (.dr (.ops r6 false) [16,19,20,21,22,23,24,25,26] []) (.seq (.dr (.ops r7 false) [27,28,29,30,31,32,33,34] []) (.dr (.ops r8 false) [35,36,37,38] [])))) (.dr (.ops r5 false) [17,18] [])))
def c:ACode:=(.seq (.dr (.ops r0 false) [4,5] []) (.seq (.dr (.ops r1 false) [9,10,11] []) (.seq (.ops r2 false) (.seq (.seq (.dr (.ops r3 false) [12,13,14] []) (.block 0 (.loop l1))) (.seq (.dr (.ops r9 false) [0,1,6,7,8,16,39,40,41,42] []) .ret)))))
end ref01_small
def ref01_small:AFn:=⟨2,ref01_small.c,[.tmp 4,.tmp 5],false⟩
namespace ref01_DivMod
def r0:List AI:=[o 4 (.mov (.c .nil)),o 5 (.mov (.c .nil)),o 6 (.mov (k 0))]
def r1:List AI:=[m 27 0,o 28 (.call 101 [27]),m 29 1,o 30 (.call 101 [29]),m 0 28,m 1 30]
def r2:List AI:=[m 31 1,o 32 (.len 31),o 33 (.bin .eql 32 (k 0))]
def r3:List AI:=[o 4 (.mov (.c .nil)),o 5 (.mov (.c .nil)),o 6 (.mov (k 3))]
def r4:List AI:=[m 34 1,o 35 (.len 34),o 36 (.bin .eql 35 (k 1))]
def r5:List AI:=[m 38 0,m 39 1,o 40 (.iadr none 1 39 (k 0)),o 41 (.ld false 1 40),o 42 (.call 108 [38,41]),m 37 42,o 43 (.ext 37 0),o 44 (.ext 37 1),m 7 43,m 8 44]
def r6:List AI:=[m 45 7,m 46 8,o 47 (.bslice 47 1 [46]),o 48 (.call 101 [47]),m 4 45,m 5 48,o 6 (.mov (k 0))]
def r7:List AI:=[m 49 0,m 50 1,o 51 (.call 102 [49,50]),o 52 (.bin .lss 51 (k 0))]
def r8:List AI:=[m 53 0,o 4 (.mov (.c .nil)),m 5 53,o 6 (.mov (k 0))]
def r9:List AI:=[m 54 1,m 55 1,o 56 (.len 55),o 57 (.bin .sub 56 (k 1)),o 58 (.slc 1 54 (some 57) none),o 59 (.call 106 [58]),o 60 (.bin .sub (k 32) 59),m 9 60]
def r10:List AI:=[m 61 0,m 62 9,o 63 (.calli 107 [61,62]),m 64 1,m 65 9,o 66 (.call 107 [64,65]),m 10 63,m 11 66]
def r11:List AI:=[m 67 10,o 68 (.bslice 68 1 [(.c (.int .u32 (0)))]),o 69 (.app 69 1 4 67 68),m 10 69]
def r12:List AI:=[m 70 10,o 71 (.len 70),m 72 0,o 73 (.len 72),o 74 (.bin .add 73 (k 1)),o 75 (.bin .lss 71 74)]
def r13:List AI:=[m 76 10,o 77 (.bslice 77 1 [(.c (.int .u32 (0)))]),o 78 (.app 78 1 4 76 77),m 10 78]
def r14:List AI:=[m 79 11,o 80 (.len 79),m 12 80]
def r15:List AI:=[m 81 10,o 82 (.len 81),m 83 12,o 84 (.bin .sub 82 83),o 85 (.mk 85 1 4 [(.int .u32 (0))] 84 84),m 13 85]
def r16:List AI:=[m 86 10,o 87 (.len 86),m 88 12,o 89 (.bin .sub 87 88),o 90 (.bin .sub 89 (k 1)),m 14 90]
def r17:List AI:=[m 91 14,o 92 (.bin .geq 91 (k 0))]
def r19:List AI:=[m 95 10,m 96 14,m 97 12,o 98 (.bin .add 96 97),o 99 (.iadr none 1 95 98),o 100 (.ld false 1 99),o 101 (.conv .u64 100),
 o 102 (.bin .shl 101 (.c (.int .u64 (32)))),m 103 10,m 104 14,m 105 12,o 106 (.bin .add 104 105),o 107 (.bin .sub 106 (k 1)),
 o 108 (.iadr none 1 103 107),o 109 (.ld false 1 108),o 110 (.conv .u64 109),o 111 (.bin .or 102 110),m 15 111]
def r20:List AI:=[m 112 15,m 113 11,m 114 12,o 115 (.bin .sub 114 (k 1)),o 116 (.iadr none 1 113 115),o 117 (.ld false 1 116),o 118 (.conv .u64 117),
 o 119 (.bin .quo 112 118),m 16 119]
def r21:List AI:=[m 120 15,m 121 11,m 122 12,o 123 (.bin .sub 122 (k 1)),o 124 (.iadr none 1 121 123),o 125 (.ld false 1 124),o 126 (.conv .u64 125),
 o 127 (.bin .rem 120 126),m 17 127]
def r22:List AI:=[m 128 16,o 129 (.bin .geq 128 (.c (.int .u64 (4294967296)))),m 130 129,g 131 130 false (.mov 16),g 132 130 false (.mov 11),g 133 130 false (.mov 12),
 g 134 130 false (.bin .sub 133 (k 2)),g 135 130 false (.iadr none 1 132 134),g 136 130 false (.ld false 1 135),g 137 130 false (.conv .u64 136),
 g 138 130 false (.bin .mul 131 137),g 139 130 false (.mov 17),g 140 130 false (.bin .shl 139 (.c (.int .u64 (32)))),g 141 130 false (.mov 10),
 g 142 130 false (.mov 14),g 143 130 false (.mov 12),g 144 130 false (.bin .add 142 143),g 145 130 false (.bin .sub 144 (k 2)),
 g 146 130 false (.iadr none 1 141 145),g 147 130 false (.ld false 1 146),g 148 130 false (.conv .u64 147),g 149 130 false (.bin .or 140 148),
 g 150 130 false (.bin .gtr 138 149),o 151 (.pick 130 (.c (.bool true)) 150)]
def r23:List AI:=[m 152 16,o 153 (.bin .sub 152 (.c (.int .u64 (1)))),m 16 153]
def r24:List AI:=[m 154 17,m 155 11,m 156 12,o 157 (.bin .sub 156 (k 1)),o 158 (.iadr none 1 155 157),o 159 (.ld false 1 158),o 160 (.conv .u64 159),
 o 161 (.bin .add 154 160),m 17 161]
def r25:List AI:=[m 162 17,o 163 (.bin .geq 162 (.c (.int .u64 (4294967296))))]
def r26:List AI:=[o 18 (.mov (.c (.int .u64 (0)))),o 19 (.mov (.c (.int .u64 (0))))]
def r27:List AI:=[o 20 (.mov (k 0))]
def r28:List AI:=[m 164 20,m 165 12,o 166 (.bin .lss 164 165)]
def r30:List AI:=[m 169 19,m 170 16,m 171 11,m 172 20,o 173 (.iadr none 1 171 172),o 174 (.ld false 1 173),o 175 (.conv .u64 174),o 176 (.bin .mul 170 175),
 o 177 (.bin .add 169 176),m 19 177]
def r31:List AI:=[m 178 19,o 179 (.bin .and 178 (.c (.int .u64 (4294967295)))),m 180 18,o 181 (.bin .add 179 180),m 21 181]
def r32:List AI:=[m 182 19,o 183 (.bin .shr 182 (.c (.int .u64 (32)))),m 19 183]
def r33:List AI:=[m 184 10,m 185 20,m 186 14,o 187 (.bin .add 185 186),o 188 (.iadr none 1 184 187),o 189 (.ld false 1 188),o 190 (.conv .u64 189),m 22 190]
def r34:List AI:=[o 18 (.mov (.c (.int .u64 (0))))]
def r35:List AI:=[m 191 22,m 192 21,o 193 (.bin .lss 191 192)]
def r36:List AI:=[m 194 22,o 195 (.bin .add 194 (.c (.int .u64 (4294967296)))),m 22 195]
def r37:List AI:=[o 18 (.mov (.c (.int .u64 (1))))]
def r38:List AI:=[m 196 10,m 197 20,m 198 14,o 199 (.bin .add 197 198),m 200 22,m 201 21,o 202 (.bin .sub 200 201),o 203 (.conv .u32 202),o 204 (.iadr none 1 196 199),
 n (.st 1 204 203)]
def r29:List AI:=[m 167 20,o 168 (.bin .add 167 (k 1)),m 20 168]
def r39:List AI:=[m 205 19,m 206 18,o 207 (.bin .add 205 206),m 23 207]
def r40:List AI:=[m 208 10,m 209 14,m 210 12,o 211 (.bin .add 209 210),o 212 (.iadr none 1 208 211),o 213 (.ld false 1 212),o 214 (.conv .u64 213),m 24 214]
def r41:List AI:=[o 18 (.mov (.c (.int .u64 (0))))]
def r42:List AI:=[m 215 24,m 216 23,o 217 (.bin .lss 215 216)]
def r43:List AI:=[m 218 24,o 219 (.bin .add 218 (.c (.int .u64 (4294967296)))),m 24 219]
def r44:List AI:=[o 18 (.mov (.c (.int .u64 (1))))]
def r45:List AI:=[m 220 10,m 221 14,m 222 12,o 223 (.bin .add 221 222),m 224 24,m 225 23,o 226 (.bin .sub 224 225),o 227 (.conv .u32 226),o 228 (.iadr none 1 220 223),
 n (.st 1 228 227)]
def r46:List AI:=[m 229 18,o 230 (.bin .eql 229 (.c (.int .u64 (1))))]
def r47:List AI:=[m 231 16,o 232 (.bin .sub 231 (.c (.int .u64 (1)))),m 16 232]
def r48:List AI:=[o 25 (.mov (.c (.int .u64 (0))))]
def r49:List AI:=[o 26 (.mov (k 0))]
def r50:List AI:=[m 233 26,m 234 12,o 235 (.bin .lss 233 234)]
def r52:List AI:=[m 238 25,m 239 10,m 240 26,m 241 14,o 242 (.bin .add 240 241),o 243 (.iadr none 1 239 242),o 244 (.ld false 1 243),o 245 (.conv .u64 244),m 246 11,
 m 247 26,o 248 (.iadr none 1 246 247),o 249 (.ld false 1 248),o 250 (.conv .u64 249),o 251 (.bin .add 245 250),o 252 (.bin .add 238 251),m 25 252]
def r53:List AI:=[m 253 10,m 254 26,m 255 14,o 256 (.bin .add 254 255),m 257 25,o 258 (.conv .u32 257),o 259 (.iadr none 1 253 256),n (.st 1 259 258)]
def r54:List AI:=[m 260 25,o 261 (.bin .shr 260 (.c (.int .u64 (32)))),m 25 261]
def r51:List AI:=[m 236 26,o 237 (.bin .add 236 (k 1)),m 26 237]
def r55:List AI:=[m 262 10,m 263 14,m 264 12,o 265 (.bin .add 263 264),o 266 (.iadr none 1 262 265),o 267 (.ld false 1 266),m 268 25,o 269 (.conv .u32 268),
 o 270 (.bin .add 267 269),o 271 (.iadr none 1 262 265),n (.st 1 271 270)]
def r56:List AI:=[m 272 13,m 273 14,m 274 16,o 275 (.conv .u32 274),o 276 (.iadr none 1 272 273),n (.st 1 276 275)]
def r18:List AI:=[m 93 14,o 94 (.bin .sub 93 (k 1)),m 14 94]
def r57:List AI:=[m 277 13,o 278 (.call 101 [277]),m 279 10,m 280 12,o 281 (.slc 1 279 none (some 280)),m 282 9,o 283 (.un .neg 282),o 284 (.call 107 [281,283]),m 4 278,
 m 5 284,o 6 (.mov (k 0))]
def l1:ACode:=(.seq (.seq (.dr (.ops r12 false) [70,71,72,73,74] []) (.cond 75 .skip (.exit 0))) (.block 1 (.dr (.ops r13 false) [75,76,77,78] [])))
def l3:ACode:=(.seq (.seq (.dr (.ops r22 true) [128,129,130,131,132,133,134,135,136,137,138,139,140,141,142,143,144,145,146,147,148,149,150,163] []) (.cond 151 .skip (.exit 4))) (.block 5 (.seq (.dr (.ops r23 false) [151,152,153] []) (.seq (.dr (.ops r24 false) [154,155,156,157,158,159,160,161] []) (.seq (.dr (.ops r25 false) [162] []) (.cond 163 (.exit 4) .skip))))))
def l4:ACode:=(.seq (.seq (.dr (.ops r28 false) [164,165] []) (.cond 166 .skip (.exit 6))) (.seq (.block 7 (.seq (.dr (.ops r30 false) [166,169,170,171,172,173,174,175,176,177] []) (.seq (.dr (.ops r31 false) [18,178,179,180,181] []) (.seq (.dr (.ops r32 false) [182,183] []) (.seq (.dr (.ops r33 false) [184,185,186,187,188,189,190] []) (.seq (.ops r34 false) (.seq (.seq (.dr (.ops r35 false) [191,192] []) (.cond 193 (.seq (.dr (.ops r36 false) [18,193,194,195] []) (.ops r37 false)) .skip)) (.dr (.ops r38 false) [21,22,193,196,197,198,199,200,201,202,203,204] [])))))))) (.dr (.ops r29 false) [167,168] [])))
def l5:ACode:=(.seq (.seq (.dr (.ops r50 false) [233,234] []) (.cond 235 .skip (.exit 8))) (.seq (.block 9 (.seq (.dr (.ops r52 true) [235,238,239,240,241,242,243,244,245,246,247,248,249,250,251,252] []) (.seq (.dr (.ops r53 false) [253,254,255,256,257,258,259] []) (.dr (.ops r54 false) [260,261] [])))) (.dr (.ops r51 false) [236,237] [])))
def l2:ACode:=(.seq (.seq (.dr (.ops r17 false) [91] []) (.cond 92 .skip (.exit 2))) (.seq (.block 3 (.seq (.dr (.ops r19 true) [92,95,96,97,98,99,100,101,102,103,104,105,106,107,108,109,110,111] []) (.seq (.dr (.ops r20 false) [112,113,114,115,116,117,118,119] []) (.seq (.dr (.ops r21 false) [15,120,121,122,123,124,125,126,127] []) (.seq (.block 4 (.loop l3)) (.seq (.dr (.ops r26 false) [17,151,163] []) (.seq (.seq (.ops r27 false) (.block 6 (.loop l4))) (.seq (.dr (.ops r39 false) [18,19,20,166,205,206,207] []) (.seq (.dr (.ops r40 false) [208,209,210,211,212,213,214] []) (.seq (.ops r41 false) (.seq (.seq (.dr (.ops r42 false) [215,216] []) (.cond 217 (.seq (.dr (.ops r43 false) [18,217,218,219] []) (.ops r44 false)) .skip)) (.seq (.dr (.ops r45 false) [23,24,217,220,221,222,223,224,225,226,227,228] []) (.seq (.seq (.dr (.ops r46 false) [18,229] []) (.cond 230 (.seq (.dr (.ops r47 false) [230,231,232] []) (.seq (.ops r48 false) (.seq (.seq (.ops r49 false) (.block 8 (.loop l5))) (.dr (.ops r55 false) [25,26,235,262,263,264,265,266,267,268,269,270,271] [])))) .skip)) (.dr (.ops r56 false) [16,230,272,273,274,275,276] [])))))))))))))) (.dr (.ops r18 false) [93,94] [])))
def c:ACode:=(.seq (.dr (.ops r0 false) [4,5,6] []) (.seq (.dr (.ops r1 false) [27,28,29,30] []) (.seq (.seq (.dr (.ops r2 false) [31,32] []) (.cond 33 (.seq (.dr (.ops r3 false) [0,1,33] []) .ret) .skip)) (.seq (.seq (.dr (.ops r4 false) [33,34,35] []) (.cond 36 (.seq (.dr (.ops r5 false) [0,1,36,37,38,39,40,41,42,43,44] []) (.seq (.dr (.ops r6 false) [7,8,45,46,47,48] []) .ret)) .skip)) (.seq (.seq (.dr (.ops r7 false) [36,49,50,51] []) (.cond 52 (.seq (.dr (.ops r8 false) [0,1,52,53] []) .ret) .skip)) (.seq (.dr (.ops r9 false) [52,54,55,56,57,58,59,60] []) (.seq (.dr (.ops r10 false) [1,61,62,63,64,65,66] []) (.seq (.dr (.ops r11 false) [67,68,69] []) (.seq (.block 0 (.loop l1)) (.seq (.dr (.ops r14 false) [0,75,79,80] []) (.seq (.dr (.ops r15 false) [81,82,83,84,85] []) (.seq (.seq (.dr (.ops r16 false) [86,87,88,89,90] []) (.block 2 (.loop l2))) (.seq (.dr (.ops r57 true) [9,10,11,12,13,14,92,277,278,279,280,281,282,283,284] []) .ret)))))))))))))
end ref01_DivMod
def ref01_DivMod:AFn:=⟨2,ref01_DivMod.c,[.tmp 4,.tmp 5,.tmp 6],false⟩
namespace ref01_Gcd
def r0:List AI:=[o 4 (.mov (.c .nil))]
def r1:List AI:=[m 8 0,o 9 (.call 101 [8]),m 10 1,o 11 (.call 101 [10]),m 0 9,m 1 11]
def r2:List AI:=[m 12 1,o 13 (.len 12),o 14 (.bin .gtr 13 (k 0))]
def r3:List AI:=[m 16 0,m 17 1,o 18 (.call 109 [16,17]),m 15 18,o 19 (.ext 15 0),o 20 (.ext 15 1),o 21 (.ext 15 2),m 5 19,m 6 20,m 7 21]
def r4:List AI:=[m 22 1,m 23 6,m 0 22,m 1 23]
def r5:List AI:=[m 24 0,m 4 24]
def l1:ACode:=(.seq (.seq (.dr (.ops r2 false) [12,13] []) (.cond 14 .skip (.exit 0))) (.block 1 (.seq (.dr (.ops r3 false) [0,5,7,14,15,16,17,18,19,20,21] []) (.dr (.ops r4 false) [6,22,23] []))))
def c:ACode:=(.seq (.dr (.ops r0 false) [4] []) (.seq (.dr (.ops r1 false) [8,9,10,11] []) (.seq (.block 0 (.loop l1)) (.seq (.dr (.ops r5 false) [0,1,14,24] []) .ret))))
end ref01_Gcd
def ref01_Gcd:AFn:=⟨2,ref01_Gcd.c,[.tmp 4],false⟩
namespace ref02_Trim
def r0:List AI:=[o 1 (.box 1 0),o 2 (.alloc 2 [(.bool false),.nil])]
def r1:List AI:=[o 4 (.fadr 1 1),o 5 (.ld false 1 4),o 6 (.call 101 [5]),m 3 6]
def r2:List AI:=[o 7 (.fadr 1 0),o 8 (.ld false 1 7),m 9 8,g 10 9 true (.mov 3),g 11 9 true (.len 10),g 12 9 true (.bin .gtr 11 (k 0)),
 o 13 (.pick 9 12 (.c (.bool false))),m 14 3,o 15 (.build [(.bool false),.nil] [(0,1,13),(1,1,14)]),n (.st 2 2 15)]
def c:ACode:=(.seq (.dr (.ops r0 false) [0] []) (.seq (.dr (.ops r1 false) [4,5,6] []) (.seq (.dr (.ops r2 false) [1,3,7,8,9,10,11,12,13,14,15] []) .ret)))
end ref02_Trim
def ref02_Trim:AFn:=⟨1,ref02_Trim.c,[.cell 2 true 2],false⟩
namespace ref02_Of
def r0:List AI:=[o 2 (.alloc 2 [(.bool false),.nil])]
def r1:List AI:=[m 4 0,o 5 (.bin .lss 4 (k 0))]
def r2:List AI:=[m 6 0,o 7 (.bin .add 6 (k 1)),o 8 (.un .neg 7),o 9 (.conv .u64 8),o 10 (.bin .add 9 (.c (.int .u64 (1)))),m 3 10]
def r3:List AI:=[m 11 3,o 12 (.conv .u32 11),m 13 3,o 14 (.bin .shr 13 (.c (.int .u64 (32)))),o 15 (.conv .u32 14),o 16 (.bslice 16 1 [12,15]),
 o 17 (.build [(.bool false),.nil] [(0,1,(.c (.bool true))),(1,1,16)]),o 18 (.call 111 [17]),n (.st 2 2 18)]
def r4:List AI:=[m 19 0,o 20 (.conv .u32 19),m 21 0,o 22 (.conv .u64 21),o 23 (.bin .shr 22 (.c (.int .u64 (32)))),o 24 (.conv .u32 23),o 25 (.bslice 25 1 [20,24]),
 o 26 (.build [(.bool false),.nil] [(1,1,25)]),o 27 (.call 111 [26]),n (.st 2 2 27)]
def c:ACode:=(.seq (.ops r0 false) (.seq (.seq (.dr (.ops r1 false) [4] []) (.cond 5 (.seq (.dr (.ops r2 false) [0,5,6,7,8,9,10] []) (.seq (.dr (.ops r3 false) [3,11,12,13,14,15,16,17,18] []) .ret)) .skip)) (.seq (.dr (.ops r4 false) [0,5,19,20,21,22,23,24,25,26,27] []) .ret)))
end ref02_Of
def ref02_Of:AFn:=⟨1,ref02_Of.c,[.cell 2 true 2],false⟩
namespace ref02_Sign
def r0:List AI:=[o 1 (.box 1 0),o 2 (.mov (k 0))]
def r1:List AI:=[o 3 (.ld true 2 1),o 4 (.call 111 [3]),n (.st 2 1 4)]
def r2:List AI:=[o 6 (.fadr 1 1),o 7 (.ld false 1 6),o 8 (.len 7),o 9 (.bin .eql 8 (k 0)),m 5 9]
def r3:List AI:=[o 2 (.mov (k 0))]
def r4:List AI:=[o 11 (.fadr 1 0),o 12 (.ld false 1 11),m 10 12]
def r5:List AI:=[o 2 (.mov (k (-1)))]
def r6:List AI:=[o 2 (.mov (k 1))]
def c:ACode:=(.seq (.dr (.ops r0 false) [0,2] []) (.seq (.dr (.ops r1 false) [3,4] []) (.seq (.block 0 (.seq (.dr (.ops r2 false) [6,7,8,9] []) (.cond 5 (.seq (.dr (.ops r3 false) [1,5] []) .ret) (.seq (.dr (.ops r4 false) [1,5,11,12] []) (.cond 10 (.seq (.dr (.ops r5 false) [10] []) .ret) .skip))))) (.seq (.dr (.ops r6 false) [10] []) .ret))))
end ref02_Sign
def ref02_Sign:AFn:=⟨1,ref02_Sign.c,[.tmp 2],false⟩
namespace ref02_Neg
def r0:List AI:=[o 1 (.box 1 0),o 2 (.alloc 2 [(.bool false),.nil])]
def r1:List AI:=[o 3 (.ld true 2 1),o 4 (.call 111 [3]),n (.st 2 1 4)]
def r2:List AI:=[o 5 (.fadr 1 0),o 6 (.ld false 1 5),o 7 (.un .not 6),m 8 7,g 9 8 true (.fadr 1 1),g 10 8 true (.ld false 1 9),g 11 8 true (.len 10),
 g 12 8 true (.bin .gtr 11 (k 0)),o 13 (.pick 8 12 (.c (.bool false))),o 14 (.fadr 1 0),n (.st 1 14 13)]
def r3:List AI:=[o 15 (.ld true 2 1),n (.st 2 2 15)]
def c:ACode:=(.seq (.dr (.ops r0 false) [0] []) (.seq (.dr (.ops r1 false) [3,4] []) (.seq (.dr (.ops r2 false) [5,6,7,8,9,10,11,12,13,14] []) (.seq (.dr (.ops r3 false) [1,15] []) .ret))))
end ref02_Neg
def ref02_Neg:AFn:=⟨1,ref02_Neg.c,[.cell 2 true 2],false⟩
namespace ref02_Add
def r0:List AI:=[o 2 (.box 2 0),o 3 (.box 3 1),o 4 (.alloc 4 [(.bool false),.nil])]
def r1:List AI:=[o 5 (.ld true 2 2),o 6 (.call 111 [5]),o 7 (.ld true 2 3),o 8 (.call 111 [7]),n (.st 2 2 6),n (.st 2 3 8)]
def r2:List AI:=[o 9 (.fadr 2 0),o 10 (.ld false 1 9),o 11 (.fadr 3 0),o 12 (.ld false 1 11),o 13 (.beq false 10 12)]
def r3:List AI:=[o 14 (.fadr 2 0),o 15 (.ld false 1 14),o 16 (.fadr 2 1),o 17 (.ld false 1 16),o 18 (.fadr 3 1),o 19 (.ld false 1 18),o 20 (.call 103 [17,19]),
 o 21 (.build [(.bool false),.nil] [(0,1,15),(1,1,20)]),o 22 (.call 111 [21]),n (.st 2 4 22)]
def r4:List AI:=[o 23 (.fadr 2 1),o 24 (.ld false 1 23),o 25 (.fadr 3 1),o 26 (.ld false 1 25),o 27 (.call 102 [24,26]),o 28 (.bin .geq 27 (k 0))]
def r5:List AI:=[o 29 (.fadr 2 0),o 30 (.ld false 1 29),o 31 (.fadr 2 1),o 32 (.ld false 1 31),o 33 (.fadr 3 1),o 34 (.ld false 1 33),o 35 (.call 104 [32,34]),
 o 36 (.build [(.bool false),.nil] [(0,1,30),(1,1,35)]),o 37 (.call 111 [36]),n (.st 2 4 37)]
def r6:List AI:=[o 38 (.fadr 3 0),o 39 (.ld false 1 38),o 40 (.fadr 3 1),o 41 (.ld false 1 40),o 42 (.fadr 2 1),o 43 (.ld false 1 42),o 44 (.call 104 [41,43]),
 o 45 (.build [(.bool false),.nil] [(0,1,39),(1,1,44)]),o 46 (.call 111 [45]),n (.st 2 4 46)]
def c:ACode:=(.seq (.dr (.ops r0 false) [0,1] []) (.seq (.dr (.ops r1 true) [5,6,7,8] []) (.seq (.seq (.dr (.ops r2 false) [9,10,11,12] []) (.cond 13 (.seq (.dr (.ops r3 true) [2,3,13,14,15,16,17,18,19,20,21,22] []) .ret) .skip)) (.seq (.seq (.dr (.ops r4 false) [13,23,24,25,26,27] []) (.cond 28 (.seq (.dr (.ops r5 true) [2,3,28,29,30,31,32,33,34,35,36,37] []) .ret) .skip)) (.seq (.dr (.ops r6 true) [2,3,28,38,39,40,41,42,43,44,45,46] []) .ret)))))
end ref02_Add
def ref02_Add:AFn:=⟨2,ref02_Add.c,[.cell 4 true 2],false⟩
namespace ref02_Sub
def r0:List AI:=[o 2 (.box 2 0),o 3 (.box 3 1),o 4 (.alloc 4 [(.bool false),.nil])]
def r1:List AI:=[o 5 (.ld true 2 2),o 6 (.ld true 2 3),o 7 (.call 114 [6]),o 8 (.call 115 [5,7]),n (.st 2 4 8)]
def c:ACode:=(.seq (.dr (.ops r0 false) [0,1] []) (.seq (.dr (.ops r1 true) [2,3,5,6,7,8] []) .ret))
end ref02_Sub
def ref02_Sub:AFn:=⟨2,ref02_Sub.c,[.cell 4 true 2],false⟩
namespace ref02_Compare
def r0:List AI:=[o 2 (.box 2 0),o 3 (.box 3 1),o 4 (.mov (k 0))]
def r1:List AI:=[o 5 (.ld true 2 2),o 6 (.ld true 2 3),o 7 (.call 116 [5,6]),o 8 (.call 113 [7]),m 4 8]
def c:ACode:=(.seq (.dr (.ops r0 false) [0,1,4] []) (.seq (.dr (.ops r1 false) [2,3,5,6,7,8] []) .ret))
end ref02_Compare
def ref02_Compare:AFn:=⟨2,ref02_Compare.c,[.tmp 4],false⟩
namespace ref02_Mul
def r0:List AI:=[o 2 (.box 2 0),o 3 (.box 3 1),o 4 (.alloc 4 [(.bool false),.nil])]
def r1:List AI:=[o 5 (.fadr 2 0),o 6 (.ld false 1 5),o 7 (.fadr 3 0),o 8 (.ld false 1 7),o 9 (.beq true 6 8),o 10 (.fadr 2 1),o 11 (.ld false 1 10),o 12 (.fadr 3 1),
 o 13 (.ld false 1 12),o 14 (.call 105 [11,13]),o 15 (.build [(.bool false),.nil] [(0,1,9),(1,1,14)]),o 16 (.call 111 [15]),n (.st 2 4 16)]
def c:ACode:=(.seq (.dr (.ops r0 false) [0,1] []) (.seq (.dr (.ops r1 true) [2,3,5,6,7,8,9,10,11,12,13,14,15,16] []) .ret))
end ref02_Mul
def ref02_Mul:AFn:=⟨2,ref02_Mul.c,[.cell 4 true 2],false⟩
namespace ref02_Div
def r0:List AI:=[o 2 (.box 2 0),o 3 (.box 3 1),o 4 (.alloc 4 [(.bool false),.nil]),o 5 (.alloc 5 [(.bool false),.nil]),o 6 (.mov (k 0))]
def r1:List AI:=[o 10 (.ld true 2 2),o 11 (.call 111 [10]),o 12 (.ld true 2 3),o 13 (.call 111 [12]),n (.st 2 2 11),n (.st 2 3 13)]
def r2:List AI:=[o 15 (.fadr 2 1),o 16 (.ld false 1 15),o 17 (.fadr 3 1),o 18 (.ld false 1 17),o 19 (.call 109 [16,18]),m 14 19,o 20 (.ext 14 0),o 21 (.ext 14 1),
 o 22 (.ext 14 2),m 7 20,m 8 21,m 9 22]
def r3:List AI:=[m 23 9,o 24 (.bin .neq 23 (k 0))]
def r4:List AI:=[o 25 (.build [(.bool false),.nil] []),o 26 (.build [(.bool false),.nil] []),m 27 9,n (.st 2 4 25),n (.st 2 5 26),m 6 27]
def r5:List AI:=[o 28 (.fadr 2 0),o 29 (.ld false 1 28),m 30 29,g 31 30 true (.mov 8),g 32 30 true (.len 31),g 33 30 true (.bin .gtr 32 (k 0)),
 o 34 (.pick 30 33 (.c (.bool false)))]
def r6:List AI:=[m 35 7,o 36 (.bslice 36 1 [(.c (.int .u32 (1)))]),o 37 (.call 103 [35,36]),o 38 (.fadr 3 1),⟨some 39,.ld false 1 38,none,[36]⟩,m 40 8,
 o 41 (.call 104 [39,40]),m 7 37,m 8 41]
def r7:List AI:=[o 42 (.fadr 2 0),o 43 (.ld false 1 42),o 44 (.fadr 3 0),o 45 (.ld false 1 44),o 46 (.beq true 43 45),m 47 7,
 o 48 (.build [(.bool false),.nil] [(0,1,46),(1,1,47)]),o 49 (.call 111 [48]),m 50 8,o 51 (.build [(.bool false),.nil] [(1,1,50)]),n (.st 2 4 49),
 n (.st 2 5 51),o 6 (.mov (k 0))]
def c:ACode:=(.seq (.dr (.ops r0 false) [0,1,6] []) (.seq (.dr (.ops r1 true) [10,11,12,13] []) (.seq (.dr (.ops r2 false) [14,15,16,17,18,19,20,21,22] []) (.seq (.seq (.dr (.ops r3 false) [23] []) (.cond 24 (.seq (.dr (.ops r4 false) [2,3,7,8,9,24,25,26,27] []) .ret) .skip)) (.seq (.seq (.dr (.ops r5 false) [9,24,28,29,30,31,32,33] []) (.cond 34 (.dr (.ops r6 true) [34,35,36,37,38,39,40,41] []) .skip)) (.seq (.dr (.ops r7 false) [2,3,7,8,34,42,43,44,45,46,47,48,49,50,51] []) .ret))))))
end ref02_Div
def ref02_Div:AFn:=⟨2,ref02_Div.c,[.cell 4 true 2,.cell 5 true 2,.tmp 6],false⟩
namespace ref02_Gcd
def r0:List AI:=[o 2 (.box 2 0),o 3 (.box 3 1),o 4 (.alloc 4 [(.bool false),.nil])]
def r1:List AI:=[o 5 (.fadr 2 1),o 6 (.ld false 1 5),o 7 (.fadr 3 1),o 8 (.ld false 1 7),o 9 (.call 110 [6,8]),o 10 (.build [(.bool false),.nil] [(1,1,9)]),
 n (.st 2 4 10)]
def c:ACode:=(.seq (.dr (.ops r0 false) [0,1] []) (.seq (.dr (.ops r1 false) [2,3,5,6,7,8,9,10] []) .ret))
end ref02_Gcd
def ref02_Gcd:AFn:=⟨2,ref02_Gcd.c,[.cell 4 true 2],false⟩
namespace ref03_reduce
def r0:List AI:=[o 2 (.box 2 0),o 3 (.box 3 1),o 4 (.alloc 4 [(.bool false),.nil,.nil])]
def r1:List AI:=[o 12 (.ld true 2 2),o 13 (.call 113 [12]),o 14 (.bin .eql 13 (k 0)),m 15 14,g 16 15 false (.ld true 2 3),g 17 15 false (.call 113 [16]),
 g 18 15 false (.bin .eql 17 (k 0)),o 19 (.pick 15 (.c (.bool true)) 18)]
def r2:List AI:=[o 20 (.bslice 20 1 [(.c (.int .u32 (1)))]),o 21 (.build [(.bool false),.nil,.nil] [(2,1,20)]),n (.st 3 4 21)]
def r3:List AI:=[o 22 (.ld true 2 2),o 23 (.ld true 2 3),o 24 (.call 120 [22,23]),o 5 (.alloc 5 [(.bool false),.nil]),n (.st 2 5 24)]
def r4:List AI:=[o 26 (.ld true 2 2),o 27 (.ld true 2 5),o 28 (.call 119 [26,27]),m 25 28,o 29 (.ext 25 0),o 30 (.ext 25 1),o 31 (.ext 25 2),
 o 6 (.alloc 6 [(.bool false),.nil]),o 7 (.alloc 7 [(.bool false),.nil]),n (.st 2 6 29),n (.st 2 7 30),m 8 31]
def r5:List AI:=[o 33 (.ld true 2 3),o 34 (.ld true 2 5),o 35 (.call 119 [33,34]),m 32 35,o 36 (.ext 32 0),o 37 (.ext 32 1),o 38 (.ext 32 2),
 o 9 (.alloc 9 [(.bool false),.nil]),o 10 (.alloc 10 [(.bool false),.nil]),n (.st 2 9 36),n (.st 2 10 37),m 11 38]
def r6:List AI:=[o 39 (.fadr 9 0),o 40 (.ld false 1 39)]
def r7:List AI:=[o 41 (.ld true 2 6),o 42 (.call 114 [41]),n (.st 2 6 42)]
def r8:List AI:=[o 43 (.ld true 2 6),o 44 (.fadr 9 1),o 45 (.ld false 1 44),o 46 (.build [(.bool false),.nil,.nil] [(0,2,43),(2,1,45)]),n (.st 3 4 46)]
def c:ACode:=(.seq (.dr (.ops r0 false) [0,1] []) (.seq (.seq (.dr (.ops r1 false) [12,13,14,15,16,17,18] []) (.cond 19 (.seq (.dr (.ops r2 false) [2,3,19,20,21] []) .ret) .skip)) (.seq (.dr (.ops r3 false) [19,22,23,24] []) (.seq (.dr (.ops r4 false) [2,7,8,25,26,27,28,29,30,31] []) (.seq (.dr (.ops r5 false) [3,5,10,11,32,33,34,35,36,37,38] []) (.seq (.seq (.dr (.ops r6 false) [39] []) (.cond 40 (.dr (.ops r7 false) [40,41,42] []) .skip)) (.seq (.dr (.ops r8 false) [6,9,40,43,44,45,46] []) .ret)))))))
end ref03_reduce
def ref03_reduce:AFn:=⟨2,ref03_reduce.c,[.cell 4 true 3],false⟩
namespace ref03_parts
def r0:List AI:=[o 1 (.box 1 0),o 2 (.alloc 2 [(.bool false),.nil]),o 3 (.alloc 3 [(.bool false),.nil])]
def r1:List AI:=[o 5 (.fadr 1 2),o 6 (.ld false 1 5),o 7 (.call 101 [6]),o 8 (.build [(.bool false),.nil] [(1,1,7)]),o 4 (.alloc 4 [(.bool false),.nil]),n (.st 2 4 8)]
def r2:List AI:=[o 9 (.fadr 4 1),o 10 (.ld false 1 9),o 11 (.len 10),o 12 (.bin .eql 11 (k 0))]
def r3:List AI:=[o 13 (.build [(.bool false),.nil] []),o 14 (.bslice 14 1 [(.c (.int .u32 (1)))]),o 15 (.build [(.bool false),.nil] [(1,1,14)]),n (.st 2 2 13),
 n (.st 2 3 15)]
def r4:List AI:=[o 16 (.fadr 1 0),o 17 (.ld true 2 16),⟨some 18,.ld true 2 4,none,[2]⟩,n (.sto 2 2 2 17),n (.st 2 3 18)]
def c:ACode:=(.seq (.dr (.ops r0 false) [0] []) (.seq (.dr (.ops r1 false) [5,6,7,8] []) (.seq (.seq (.dr (.ops r2 false) [9,10,11] []) (.cond 12 (.seq (.dr (.ops r3 false) [1,4,12,13,14,15] []) .ret) .skip)) (.seq (.dr (.ops r4 true) [1,4,12,16,17,18] []) .ret))))
end ref03_parts
def ref03_parts:AFn:=⟨1,ref03_parts.c,[.cell 2 true 2,.cell 3 true 2],false⟩
namespace ref03_Trim
def r0:List AI:=[o 1 (.box 1 0),o 2 (.alloc 2 [(.bool false),.nil,.nil])]
def r1:List AI:=[o 6 (.ld true 3 1),o 7 (.call 122 [6]),m 5 7,o 8 (.ext 5 0),o 9 (.ext 5 1),o 3 (.alloc 3 [(.bool false),.nil]),o 4 (.alloc 4 [(.bool false),.nil]),
 n (.st 2 3 8),n (.st 2 4 9)]
def r2:List AI:=[o 10 (.ld true 2 3),o 11 (.ld true 2 4),o 12 (.call 121 [10,11]),n (.st 3 2 12)]
def c:ACode:=(.seq (.dr (.ops r0 false) [0] []) (.seq (.dr (.ops r1 false) [1,5,6,7,8,9] []) (.seq (.dr (.ops r2 false) [3,4,10,11,12] []) .ret)))
end ref03_Trim
def ref03_Trim:AFn:=⟨1,ref03_Trim.c,[.cell 2 true 3],false⟩
namespace ref03_Of
def r0:List AI:=[o 2 (.alloc 2 [(.bool false),.nil,.nil])]
def r1:List AI:=[m 3 0,o 4 (.call 112 [3]),o 5 (.bslice 5 1 [(.c (.int .u32 (1)))]),o 6 (.build [(.bool false),.nil,.nil] [(0,2,4),(2,1,5)]),n (.st 3 2 6)]
def c:ACode:=(.seq (.ops r0 false) (.seq (.dr (.ops r1 false) [0,3,4,5,6] []) .ret))
end ref03_Of
def ref03_Of:AFn:=⟨1,ref03_Of.c,[.cell 2 true 3],false⟩
namespace ref03_Frac
def r0:List AI:=[o 4 (.alloc 4 [(.bool false),.nil,.nil])]
def r1:List AI:=[m 5 0,o 6 (.call 112 [5]),m 7 1,o 8 (.call 112 [7]),o 9 (.call 121 [6,8]),n (.st 3 4 9)]
def c:ACode:=(.seq (.ops r0 false) (.seq (.dr (.ops r1 false) [0,1,5,6,7,8,9] []) .ret))
end ref03_Frac
def ref03_Frac:AFn:=⟨2,ref03_Frac.c,[.cell 4 true 3],false⟩
namespace ref03_Add
def r0:List AI:=[o 2 (.box 2 0),o 3 (.box 3 1),o 4 (.alloc 4 [(.bool false),.nil,.nil])]
def r1:List AI:=[o 10 (.ld true 3 2),o 11 (.call 122 [10]),m 9 11,o 12 (.ext 9 0),o 13 (.ext 9 1),o 5 (.alloc 5 [(.bool false),.nil]),
 o 6 (.alloc 6 [(.bool false),.nil]),n (.st 2 5 12),n (.st 2 6 13)]
def r2:List AI:=[o 15 (.ld true 3 3),o 16 (.call 122 [15]),m 14 16,o 17 (.ext 14 0),o 18 (.ext 14 1),o 7 (.alloc 7 [(.bool false),.nil]),
 o 8 (.alloc 8 [(.bool false),.nil]),n (.st 2 7 17),n (.st 2 8 18)]
def r3:List AI:=[o 19 (.ld true 2 5),o 20 (.ld true 2 8),o 21 (.call 118 [19,20]),o 22 (.ld true 2 7),o 23 (.ld true 2 6),o 24 (.call 118 [22,23]),
 o 25 (.call 115 [21,24]),o 26 (.ld true 2 6),o 27 (.ld true 2 8),o 28 (.call 118 [26,27]),o 29 (.call 121 [25,28]),n (.st 3 4 29)]
def c:ACode:=(.seq (.dr (.ops r0 false) [0,1] []) (.seq (.dr (.ops r1 false) [2,9,10,11,12,13] []) (.seq (.dr (.ops r2 false) [3,14,15,16,17,18] []) (.seq (.dr (.ops r3 true) [5,6,7,8,19,20,21,22,23,24,25,26,27,28,29] []) .ret))))
end ref03_Add
def ref03_Add:AFn:=⟨2,ref03_Add.c,[.cell 4 true 3],false⟩
namespace ref03_Compare
def r0:List AI:=[o 2 (.box 2 0),o 3 (.box 3 1),o 4 (.mov (k 0))]
def r1:List AI:=[o 10 (.ld true 3 2),o 11 (.call 122 [10]),m 9 11,o 12 (.ext 9 0),o 13 (.ext 9 1),o 5 (.alloc 5 [(.bool false),.nil]),
 o 6 (.alloc 6 [(.bool false),.nil]),n (.st 2 5 12),n (.st 2 6 13)]
def r2:List AI:=[o 15 (.ld true 3 3),o 16 (.call 122 [15]),m 14 16,o 17 (.ext 14 0),o 18 (.ext 14 1),o 7 (.alloc 7 [(.bool false),.nil]),
 o 8 (.alloc 8 [(.bool false),.nil]),n (.st 2 7 17),n (.st 2 8 18)]
def r3:List AI:=[o 19 (.ld true 2 5),o 20 (.ld true 2 8),o 21 (.call 118 [19,20]),o 22 (.ld true 2 7),o 23 (.ld true 2 6),o 24 (.call 118 [22,23]),
 o 25 (.call 117 [21,24]),m 4 25]
def c:ACode:=(.seq (.dr (.ops r0 false) [0,1,4] []) (.seq (.dr (.ops r1 false) [2,9,10,11,12,13] []) (.seq (.dr (.ops r2 false) [3,14,15,16,17,18] []) (.seq (.dr (.ops r3 true) [5,6,7,8,19,20,21,22,23,24,25] []) .ret))))
end ref03_Compare
def ref03_Compare:AFn:=⟨2,ref03_Compare.c,[.tmp 4],false⟩
structure RefGLib (L:Lib):Prop where
 ref01_Trim:L 101=some F.ref01_Trim
 ref01_Compare:L 102=some F.ref01_Compare
 ref01_Add:L 103=some F.ref01_Add
 ref01_Sub:L 104=some F.ref01_Sub
 ref01_Mul:L 105=some F.ref01_Mul
 ref01_BitLen:L 106=some F.ref01_BitLen
 ref01_Shift:L 107=some F.ref01_Shift
 ref01_small:L 108=some F.ref01_small
 ref01_DivMod:L 109=some F.ref01_DivMod
 ref01_Gcd:L 110=some F.ref01_Gcd
 ref02_Trim:L 111=some F.ref02_Trim
 ref02_Of:L 112=some F.ref02_Of
 ref02_Sign:L 113=some F.ref02_Sign
 ref02_Neg:L 114=some F.ref02_Neg
 ref02_Add:L 115=some F.ref02_Add
 ref02_Sub:L 116=some F.ref02_Sub
 ref02_Compare:L 117=some F.ref02_Compare
 ref02_Mul:L 118=some F.ref02_Mul
 ref02_Div:L 119=some F.ref02_Div
 ref02_Gcd:L 120=some F.ref02_Gcd
 ref03_reduce:L 121=some F.ref03_reduce
 ref03_parts:L 122=some F.ref03_parts
 ref03_Trim:L 123=some F.ref03_Trim
 ref03_Of:L 124=some F.ref03_Of
 ref03_Frac:L 125=some F.ref03_Frac
 ref03_Add:L 126=some F.ref03_Add
 ref03_Compare:L 127=some F.ref03_Compare
end Go.Eng.F

namespace Go.Eng.F
open C
structure SysGLib (L:Lib):Prop extends RatGLib L,RefGLib L where
end Go.Eng.F

namespace Go.Eng.F
open C
structure LinGLib (L:Lib):Prop extends SysGLib L,NetLib L where
end Go.Eng.F

namespace Go.Eng.F
open C
namespace rational_flip
def r0:List AI:=[o 1 (.box 1 0),o 2 (.alloc 2 [(.bool false),.nil,.nil])]
def r1:List AI:=[o 3 (.fadr 1 0),o 4 (.fadr 3 0),o 5 (.ld false 1 4),o 6 (.un .not 5),o 7 (.fadr 1 0),o 8 (.fadr 7 1),o 9 (.ld false 1 8),
 o 10 (.build [(.bool false),.nil] [(0,1,6),(1,1,9)]),o 11 (.fadr 1 2),o 12 (.ld false 1 11),
 o 13 (.build [(.bool false),.nil,.nil] [(0,2,10),(2,1,12)]),n (.st 3 2 13)]
def c:ACode:=(.seq (.dr (.ops r0 false) [0] []) (.seq (.dr (.ops r1 false) [1,3,4,5,6,7,8,9,10,11,12,13] []) .ret))
end rational_flip
def rational_flip:AFn:=⟨1,rational_flip.c,[.cell 2 true 3],false⟩
namespace rational_Sub
def r0:List AI:=[o 2 (.box 2 0),o 3 (.box 3 1),o 4 (.alloc 4 [(.bool false),.nil,.nil])]
def r1:List AI:=[o 5 (.ld true 3 2),o 6 (.ld true 3 3),o 7 (.callq 149 [6]),o 8 (.call 98 [5,7]),n (.st 3 4 8)]
def c:ACode:=(.seq (.dr (.ops r0 false) [0,1] []) (.seq (.dr (.ops r1 true) [2,3,5,6,7,8] []) .ret))
end rational_Sub
def rational_Sub:AFn:=⟨2,rational_Sub.c,[.cell 4 true 3],false⟩
structure RatHLib (L:Lib):Prop extends RatGLib L where
 rational_flip:L 149=some F.rational_flip
 rational_Sub:L 150=some F.rational_Sub
end Go.Eng.F

namespace Go.Eng.F
open C
namespace ref03_Sign
def r0:List AI:=[o 1 (.box 1 0),o 2 (.mov (k 0))]
def r1:List AI:=[o 6 (.ld true 3 1),o 7 (.call 122 [6]),m 5 7,o 8 (.ext 5 0),o 9 (.ext 5 1),o 3 (.alloc 3 [(.bool false),.nil]),o 4 (.alloc 4 [(.bool false),.nil]),
 n (.st 2 3 8),n (.st 2 4 9)]
def r2:List AI:=[o 10 (.ld true 2 3),o 11 (.call 113 [10]),m 2 11]
def c:ACode:=(.seq (.dr (.ops r0 false) [0,2] []) (.seq (.dr (.ops r1 false) [1,4,5,6,7,8,9] []) (.seq (.dr (.ops r2 false) [3,10,11] []) .ret)))
end ref03_Sign
def ref03_Sign:AFn:=⟨1,ref03_Sign.c,[.tmp 2],false⟩
namespace ref01_Same
def r0:List AI:=[o 4 (.mov (.c (.bool false)))]
def r1:List AI:=[m 6 0,o 7 (.len 6),m 8 1,o 9 (.len 8),o 10 (.bin .neq 7 9)]
def r2:List AI:=[o 4 (.mov (.c (.bool false)))]
def r3:List AI:=[o 5 (.mov (k 0))]
def r4:List AI:=[m 11 5,m 12 0,o 13 (.len 12),o 14 (.bin .lss 11 13)]
def r6:List AI:=[m 17 0,m 18 5,o 19 (.iadr none 1 17 18),o 20 (.ld false 1 19),m 21 1,m 22 5,o 23 (.iadr none 1 21 22),o 24 (.ld false 1 23),o 25 (.bin .neq 20 24)]
def r7:List AI:=[o 4 (.mov (.c (.bool false)))]
def r5:List AI:=[m 15 5,o 16 (.bin .add 15 (k 1)),m 5 16]
def r8:List AI:=[o 4 (.mov (.c (.bool true)))]
def l1:ACode:=(.seq (.seq (.dr (.ops r4 false) [11,12,13] []) (.cond 14 .skip (.exit 0))) (.seq (.block 1 (.seq (.dr (.ops r6 true) [14,17,18,19,20,21,22,23,24] []) (.cond 25 (.seq (.dr (.ops r7 false) [0,1,5,25] []) .ret) .skip))) (.dr (.ops r5 false) [15,16,25] [])))
def c:ACode:=(.seq (.dr (.ops r0 false) [4] []) (.seq (.seq (.dr (.ops r1 false) [6,7,8,9] []) (.cond 10 (.seq (.dr (.ops r2 false) [0,1,10] []) .ret) .skip)) (.seq (.seq (.dr (.ops r3 false) [10] []) (.block 0 (.loop l1))) (.seq (.dr (.ops r8 false) [0,1,5,14] []) .ret))))
end ref01_Same
def ref01_Same:AFn:=⟨2,ref01_Same.c,[.tmp 4],false⟩
namespace ref02_Same
def r0:List AI:=[o 2 (.box 2 0),o 3 (.box 3 1),o 4 (.mov (.c (.bool false)))]
def r1:List AI:=[o 5 (.fadr 2 0),o 6 (.ld false 1 5),o 7 (.fadr 3 0),o 8 (.ld false 1 7),o 9 (.beq false 6 8),m 10 9,g 11 10 true (.fadr 2 1),
 g 12 10 true (.ld false 1 11),g 13 10 true (.fadr 3 1),g 14 10 true (.ld false 1 13),g 15 10 true (.call 156 [12,14]),
 o 16 (.pick 10 15 (.c (.bool false))),m 4 16]
def c:ACode:=(.seq (.dr (.ops r0 false) [0,1,4] []) (.seq (.dr (.ops r1 false) [2,3,5,6,7,8,9,10,11,12,13,14,15,16] []) .ret))
end ref02_Same
def ref02_Same:AFn:=⟨2,ref02_Same.c,[.tmp 4],false⟩
namespace ref03_Same
def r0:List AI:=[o 2 (.box 2 0),o 3 (.box 3 1),o 4 (.mov (.c (.bool false)))]
def r1:List AI:=[o 5 (.fadr 2 0),o 6 (.ld true 2 5),o 7 (.fadr 3 0),o 8 (.ld true 2 7),o 9 (.call 157 [6,8]),m 10 9,g 11 10 true (.fadr 2 2),
 g 12 10 true (.ld false 1 11),g 13 10 true (.fadr 3 2),g 14 10 true (.ld false 1 13),g 15 10 true (.call 156 [12,14]),
 o 16 (.pick 10 15 (.c (.bool false))),m 4 16]
def c:ACode:=(.seq (.dr (.ops r0 false) [0,1,4] []) (.seq (.dr (.ops r1 false) [2,3,5,6,7,8,9,10,11,12,13,14,15,16] []) .ret))
end ref03_Same
def ref03_Same:AFn:=⟨2,ref03_Same.c,[.tmp 4],false⟩
namespace ref03_SameList
def r0:List AI:=[o 4 (.mov (.c (.bool false)))]
def r1:List AI:=[m 6 0,o 7 (.len 6),m 8 1,o 9 (.len 8),o 10 (.bin .neq 7 9)]
def r2:List AI:=[o 4 (.mov (.c (.bool false)))]
def r3:List AI:=[o 5 (.mov (k 0))]
def r4:List AI:=[m 11 5,m 12 0,o 13 (.len 12),o 14 (.bin .lss 11 13)]
def r6:List AI:=[m 17 0,m 18 5,o 19 (.iadr none 3 17 18),o 20 (.ld true 3 19),m 21 1,m 22 5,o 23 (.iadr none 3 21 22),o 24 (.ld true 3 23),o 25 (.call 158 [20,24]),
 o 26 (.un .not 25)]
def r7:List AI:=[o 4 (.mov (.c (.bool false)))]
def r5:List AI:=[m 15 5,o 16 (.bin .add 15 (k 1)),m 5 16]
def r8:List AI:=[o 4 (.mov (.c (.bool true)))]
def l1:ACode:=(.seq (.seq (.dr (.ops r4 false) [11,12,13] []) (.cond 14 .skip (.exit 0))) (.seq (.block 1 (.seq (.dr (.ops r6 true) [14,17,18,19,20,21,22,23,24,25] []) (.cond 26 (.seq (.dr (.ops r7 false) [0,1,5,26] []) .ret) .skip))) (.dr (.ops r5 false) [15,16,26] [])))
def c:ACode:=(.seq (.dr (.ops r0 false) [4] []) (.seq (.seq (.dr (.ops r1 false) [6,7,8,9] []) (.cond 10 (.seq (.dr (.ops r2 false) [0,1,10] []) .ret) .skip)) (.seq (.seq (.dr (.ops r3 false) [10] []) (.block 0 (.loop l1))) (.seq (.dr (.ops r8 false) [0,1,5,14] []) .ret))))
end ref03_SameList
def ref03_SameList:AFn:=⟨2,ref03_SameList.c,[.tmp 4],false⟩
structure RefHLib (L:Lib):Prop extends RefGLib L where
 ref03_Sign:L 155=some F.ref03_Sign
 ref01_Same:L 156=some F.ref01_Same
 ref02_Same:L 157=some F.ref02_Same
 ref03_Same:L 158=some F.ref03_Same
 ref03_SameList:L 159=some F.ref03_SameList
end Go.Eng.F

namespace Go.Eng.F
open C
namespace poly_cut
def r0:List AI:=[o 2 (.mov (.c .nil))]
def r1:List AI:=[m 4 0,o 5 (.len 4),m 3 5]
def r2:List AI:=[m 6 3,o 7 (.bin .gtr 6 (k 0)),m 8 7,g 9 8 true (.mov 0),g 10 8 true (.mov 3),g 11 8 true (.bin .sub 10 (k 1)),g 12 8 true (.iadr none 3 9 11),
 g 13 8 true (.ld true 3 12),g 14 8 true (.call 97 [13]),g 15 8 true (.bin .eql 14 (k 0)),o 16 (.pick 8 15 (.c (.bool false)))]
def r3:List AI:=[m 17 3,o 18 (.bin .sub 17 (k 1)),m 3 18]
def r4:List AI:=[m 19 0,m 20 3,o 21 (.slc 3 19 none (some 20)),m 2 21]
def l1:ACode:=(.seq (.seq (.dr (.ops r2 false) [6,7,8,9,10,11,12,13,14,15] []) (.cond 16 .skip (.exit 0))) (.block 1 (.dr (.ops r3 false) [16,17,18] [])))
def c:ACode:=(.seq (.dr (.ops r0 false) [2] []) (.seq (.dr (.ops r1 false) [4,5] []) (.seq (.block 0 (.loop l1)) (.seq (.dr (.ops r4 false) [0,3,16,19,20,21] []) .ret))))
end poly_cut
def poly_cut:AFn:=⟨1,poly_cut.c,[.tmp 2],false⟩
namespace poly_Trim
def r0:List AI:=[o 2 (.mov (.c .nil))]
def r1:List AI:=[m 5 0,o 6 (.calli 169 [5]),o 7 (.len 6),o 8 (.mk 170008 3 56 [(.bool false),.nil,.nil] 7 7),m 3 8]
def r2:List AI:=[m 9 3,o 10 (.len 9),o 11 (.mov (k 0))]
def r3:List AI:=[o 12 (.bin .lss 11 10)]
def r4:List AI:=[m 13 11,m 4 13]
def r5:List AI:=[m 14 3,m 15 4,m 16 0,m 17 4,o 18 (.iadr none 3 16 17),o 19 (.ld true 3 18),o 20 (.call 95 [19]),o 21 (.iadr none 3 14 15),n (.st 3 21 20)]
def r6:List AI:=[o 22 (.bin .add 11 (k 1)),m 11 22]
def r7:List AI:=[m 23 3,m 2 23]
def l1:ACode:=(.seq (.ops r3 false) (.seq (.cond 12 .skip (.exit 0)) (.seq (.block 1 (.seq (.dr (.ops r4 false) [12,13] []) (.dr (.ops r5 false) [4,14,15,16,17,18,19,20,21] []))) (.dr (.ops r6 false) [22] []))))
def c:ACode:=(.seq (.dr (.ops r0 false) [2] []) (.seq (.dr (.ops r1 false) [5,6,7,8] []) (.seq (.seq (.dr (.ops r2 false) [9] []) (.block 0 (.loop l1))) (.seq (.dr (.ops r7 false) [0,3,10,11,12,23] []) .ret))))
end poly_Trim
def poly_Trim:AFn:=⟨1,poly_Trim.c,[.tmp 2],false⟩
structure PolyGLib (L:Lib):Prop extends RatGLib L where
 poly_cut:L 169=some F.poly_cut
 poly_Trim:L 170=some F.poly_Trim
end Go.Eng.F

namespace Go.Eng.F
open C
namespace ref05_Trim
def r0:List AI:=[o 2 (.mov (.c .nil))]
def r1:List AI:=[m 7 0,o 8 (.len 7),m 3 8]
def r2:List AI:=[m 9 3,o 10 (.bin .gtr 9 (k 0)),m 11 10,g 12 11 true (.mov 0),g 13 11 true (.mov 3),g 14 11 true (.bin .sub 13 (k 1)),g 15 11 true (.iadr none 3 12 14),
 g 16 11 true (.ld true 3 15),g 17 11 true (.call 155 [16]),g 18 11 true (.bin .eql 17 (k 0)),o 19 (.pick 11 18 (.c (.bool false)))]
def r3:List AI:=[m 20 3,o 21 (.bin .sub 20 (k 1)),m 3 21]
def r4:List AI:=[o 4 (.vrow 171004 3)]
def r5:List AI:=[m 22 0,m 23 3,o 24 (.slc 3 22 none (some 23)),o 25 (.len 24),o 26 (.mov (k 0))]
def r6:List AI:=[o 27 (.bin .lss 26 25)]
def r7:List AI:=[o 28 (.iadr none 3 24 26),o 29 (.ld true 3 28),o 6 (.alloc 171006 [(.bool false),.nil,.nil]),n (.st 3 6 29)]
def r8:List AI:=[m 30 4,o 31 (.ld true 3 6),o 32 (.call 123 [31]),o 33 (.bslice 171033 3 [32]),o 34 (.app 171034 3 56 30 33),m 4 34]
def r9:List AI:=[o 35 (.bin .add 26 (k 1)),m 26 35]
def r10:List AI:=[m 36 4,m 2 36]
def l1:ACode:=(.seq (.seq (.dr (.ops r2 false) [9,10,11,12,13,14,15,16,17,18] []) (.cond 19 .skip (.exit 0))) (.block 1 (.dr (.ops r3 false) [19,20,21] [])))
def l2:ACode:=(.seq (.ops r6 false) (.seq (.cond 27 .skip (.exit 2)) (.seq (.block 3 (.seq (.dr (.ops r7 false) [27,28,29] []) (.dr (.ops r8 false) [6,30,31,32,33,34] []))) (.dr (.ops r9 false) [35] []))))
def c:ACode:=(.seq (.dr (.ops r0 false) [2] []) (.seq (.dr (.ops r1 false) [7,8] []) (.seq (.block 0 (.loop l1)) (.seq (.dr (.ops r4 false) [19] []) (.seq (.seq (.dr (.ops r5 false) [0,3,22,23] []) (.block 2 (.loop l2))) (.seq (.dr (.ops r10 false) [4,24,25,26,27,36] []) .ret))))))
end ref05_Trim
def ref05_Trim:AFn:=⟨1,ref05_Trim.c,[.tmp 2],false⟩
namespace ref05_Equal
def r0:List AI:=[o 4 (.mov (.c (.bool false)))]
def r1:List AI:=[m 5 0,m 6 1,o 7 (.call 159 [5,6]),m 4 7]
def c:ACode:=(.seq (.dr (.ops r0 false) [4] []) (.seq (.dr (.ops r1 false) [0,1,5,6,7] []) .ret))
end ref05_Equal
def ref05_Equal:AFn:=⟨2,ref05_Equal.c,[.tmp 4],false⟩
namespace ref05_Same
def r0:List AI:=[o 4 (.mov (.c (.bool false)))]
def r1:List AI:=[m 5 0,o 6 (.call 171 [5]),m 7 1,o 8 (.call 171 [7]),o 9 (.call 172 [6,8]),m 4 9]
def c:ACode:=(.seq (.dr (.ops r0 false) [4] []) (.seq (.dr (.ops r1 false) [0,1,5,6,7,8,9] []) .ret))
end ref05_Same
def ref05_Same:AFn:=⟨2,ref05_Same.c,[.tmp 4],false⟩
structure R05GLib (L:Lib):Prop extends RefHLib L where
 ref05_Trim:L 171=some F.ref05_Trim
 ref05_Equal:L 172=some F.ref05_Equal
 ref05_Same:L 173=some F.ref05_Same
end Go.Eng.F

namespace Go.Eng.F
open C
namespace ref05_At
def r0:List AI:=[o 4 (.alloc 4 [(.bool false),.nil,.nil])]
def r1:List AI:=[m 5 1,o 6 (.bin .lss 5 (k 0)),m 7 6,g 8 7 false (.mov 1),g 9 7 false (.mov 0),g 10 7 false (.len 9),g 11 7 false (.bin .geq 8 10),
 o 12 (.pick 7 (.c (.bool true)) 11)]
def r2:List AI:=[o 13 (.call 124 [(k 0)]),n (.st 3 4 13)]
def r3:List AI:=[m 14 0,m 15 1,o 16 (.iadr none 3 14 15),o 17 (.ld true 3 16),o 18 (.call 123 [17]),n (.st 3 4 18)]
def c:ACode:=(.seq (.ops r0 false) (.seq (.seq (.dr (.ops r1 false) [5,6,7,8,9,10,11] []) (.cond 12 (.seq (.dr (.ops r2 false) [0,1,12,13] []) .ret) .skip)) (.seq (.dr (.ops r3 false) [0,1,12,14,15,16,17,18] []) .ret)))
end ref05_At
def ref05_At:AFn:=⟨2,ref05_At.c,[.cell 4 true 3],false⟩
namespace ref05_Add
def r0:List AI:=[o 4 (.mov (.c .nil))]
def r1:List AI:=[o 5 (.vrow 5 3)]
def r2:List AI:=[o 6 (.mov (k 0))]
def r3:List AI:=[m 7 6,m 8 0,o 9 (.len 8),o 10 (.bin .lss 7 9),m 11 10,g 12 11 false (.mov 6),g 13 11 false (.mov 1),g 14 11 false (.len 13),
 g 15 11 false (.bin .lss 12 14),o 16 (.pick 11 (.c (.bool true)) 15)]
def r5:List AI:=[m 19 5,m 20 0,m 21 6,o 22 (.call 192 [20,21]),m 23 1,m 24 6,o 25 (.call 192 [23,24]),o 26 (.call 126 [22,25]),o 27 (.bslice 27 3 [26]),
 o 28 (.app 28 3 56 19 27),m 5 28]
def r4:List AI:=[m 17 6,o 18 (.bin .add 17 (k 1)),m 6 18]
def r6:List AI:=[m 29 5,o 30 (.call 171 [29]),m 4 30]
def l1:ACode:=(.seq (.seq (.dr (.ops r3 false) [7,8,9,10,11,12,13,14,15] []) (.cond 16 .skip (.exit 0))) (.seq (.block 1 (.dr (.ops r5 false) [16,19,20,21,22,23,24,25,26,27,28] [])) (.dr (.ops r4 false) [17,18] [])))
def c:ACode:=(.seq (.dr (.ops r0 false) [4] []) (.seq (.ops r1 false) (.seq (.seq (.ops r2 false) (.block 0 (.loop l1))) (.seq (.dr (.ops r6 false) [0,1,5,6,16,29,30] []) .ret))))
end ref05_Add
def ref05_Add:AFn:=⟨2,ref05_Add.c,[.tmp 4],false⟩
structure TrGLib (L:Lib):Prop extends LinGLib L,RatHLib L,PolyGLib L,R05GLib L where
 ref05_At:L 192=some F.ref05_At
 ref05_Add:L 193=some F.ref05_Add
end Go.Eng.F

namespace Go.Eng.F
open C
namespace integer_Compare
def r0:List AI:=[o 2 (.box 2 0),o 3 (.box 3 1),o 4 (.mov (k 0))]
def r1:List AI:=[o 7 (.ld true 2 2),o 8 (.call 86 [7]),o 9 (.ld true 2 3),o 10 (.call 86 [9]),m 5 8,m 6 10]
def r2:List AI:=[m 12 5,m 13 6,o 14 (.bin .lss 12 13),m 11 14]
def r3:List AI:=[o 4 (.mov (k (-1)))]
def r4:List AI:=[m 16 5,m 17 6,o 18 (.bin .gtr 16 17),m 15 18]
def r5:List AI:=[o 4 (.mov (k 1))]
def r6:List AI:=[m 20 5,o 21 (.bin .eql 20 (k (-1))),m 19 21]
def r7:List AI:=[o 22 (.fadr 3 1),o 23 (.ld false 1 22),o 24 (.fadr 2 1),o 25 (.ld false 1 24),o 26 (.call 67 [23,25]),m 4 26]
def r8:List AI:=[o 27 (.fadr 2 1),o 28 (.ld false 1 27),o 29 (.fadr 3 1),o 30 (.ld false 1 29),o 31 (.call 67 [28,30]),m 4 31]
def c:ACode:=(.seq (.dr (.ops r0 false) [0,1,4] []) (.seq (.dr (.ops r1 true) [7,8,9,10] []) (.seq (.block 0 (.seq (.dr (.ops r2 false) [12,13,14] []) (.cond 11 (.seq (.dr (.ops r3 false) [2,3,5,6,11] []) .ret) (.seq (.dr (.ops r4 false) [6,11,16,17,18] []) (.cond 15 (.seq (.dr (.ops r5 false) [2,3,5,15] []) .ret) (.seq (.dr (.ops r6 false) [5,15,20,21] []) (.cond 19 (.seq (.dr (.ops r7 false) [2,3,19,22,23,24,25,26] []) .ret) .skip))))))) (.seq (.dr (.ops r8 false) [2,3,19,27,28,29,30,31] []) .ret))))
end integer_Compare
def integer_Compare:AFn:=⟨2,integer_Compare.c,[.tmp 4],false⟩
namespace rational_Compare
def r0:List AI:=[o 2 (.box 2 0),o 3 (.box 3 1),o 4 (.mov (k 0))]
def r1:List AI:=[⟨some 7,.ld true 3 2,none,[5,6]⟩,⟨some 8,.callq 89 [7],none,[5,6]⟩,⟨some 9,.ld true 3 3,none,[5,6]⟩,⟨some 10,.callq 89 [9],none,[5,6]⟩,
 o 5 (.alloc 5 [(.bool false),.nil,.nil,(.bool false)]),o 6 (.alloc 6 [(.bool false),.nil,.nil,(.bool false)]),n (.st 4 5 8),n (.st 4 6 10)]
def r2:List AI:=[o 11 (.fadr 5 3),o 12 (.ld false 1 11),m 13 12,g 14 13 true (.fadr 6 3),g 15 13 true (.ld false 1 14),o 16 (.pick 13 15 (.c (.bool false)))]
def r3:List AI:=[o 17 (.fadr 5 0),o 18 (.fadr 17 0),o 19 (.ld true 2 18),o 20 (.fadr 6 0),o 21 (.fadr 20 0),o 22 (.ld true 2 21),o 23 (.call 197 [19,22]),m 4 23]
def r4:List AI:=[o 24 (.fadr 5 0),o 25 (.fadr 24 0),o 26 (.ld true 2 25),o 27 (.fadr 6 0),o 28 (.fadr 27 2),o 29 (.ld false 1 28),o 30 (.callq 91 [29]),
 o 31 (.call 88 [26,30]),o 32 (.fadr 6 0),o 33 (.fadr 32 0),o 34 (.ld true 2 33),o 35 (.fadr 5 0),o 36 (.fadr 35 2),o 37 (.ld false 1 36),
 o 38 (.callq 91 [37]),o 39 (.call 88 [34,38]),o 40 (.call 197 [31,39]),m 4 40]
def c:ACode:=(.seq (.dr (.ops r0 false) [0,1,4] []) (.seq (.dr (.ops r1 true) [2,3,7,8,9,10] []) (.seq (.seq (.dr (.ops r2 false) [11,12,13,14,15] []) (.cond 16 (.seq (.dr (.ops r3 false) [5,6,16,17,18,19,20,21,22,23] []) .ret) .skip)) (.seq (.dr (.ops r4 true) [5,6,16,24,25,26,27,28,29,30,31,32,33,34,35,36,37,38,39,40] []) .ret))))
end rational_Compare
def rational_Compare:AFn:=⟨2,rational_Compare.c,[.tmp 4],false⟩
structure StGLib (L:Lib):Prop extends TrGLib L where
 integer_Compare:L 197=some F.integer_Compare
 rational_Compare:L 198=some F.rational_Compare
end Go.Eng.F

namespace Go.Eng.F
open C
namespace make_Mod
def r0:List AI:=[o 4 (.mov (k 0))]
def r1:List AI:=[m 5 1,o 6 (.bin .lss 5 (k 1))]
def r2:List AI:=[o 4 (.mov (k 0))]
def r3:List AI:=[m 7 0,m 8 1,o 9 (.bin .rem 7 8),m 0 9]
def r4:List AI:=[m 10 0,o 11 (.bin .lss 10 (k 0))]
def r5:List AI:=[m 12 0,m 13 1,o 14 (.bin .add 12 13),m 0 14]
def r6:List AI:=[m 15 0,m 4 15]
def c:ACode:=(.seq (.dr (.ops r0 false) [4] []) (.seq (.seq (.dr (.ops r1 false) [5] []) (.cond 6 (.seq (.dr (.ops r2 false) [0,1,6] []) .ret) .skip)) (.seq (.dr (.ops r3 false) [6,7,8,9] []) (.seq (.seq (.dr (.ops r4 false) [10] []) (.cond 11 (.dr (.ops r5 false) [1,11,12,13,14] []) .skip)) (.seq (.dr (.ops r6 false) [0,1,11,15] []) .ret)))))
end make_Mod
def make_Mod:AFn:=⟨2,make_Mod.c,[.tmp 4],false⟩
namespace make_Tape_Next
def r0:List AI:=[o 4 (.mov (k 0))]
def r1:List AI:=[m 5 0,o 6 (.nck 5),o 7 (.fadr 6 1),o 8 (.ld false 1 7),m 9 0,o 10 (.nck 9),o 11 (.fadr 10 0),o 12 (.ld false 1 11),o 13 (.len 12),
 o 14 (.bin .geq 8 13)]
def r2:List AI:=[o 4 (.mov (k 0))]
def r3:List AI:=[m 15 0,o 16 (.nck 15),o 17 (.fadr 16 1),o 18 (.ld false 1 17),o 19 (.bin .add 18 (k 1)),o 20 (.nck 15),o 21 (.fadr 20 1),n (.st 1 21 19)]
def r4:List AI:=[m 22 0,o 23 (.nck 22),o 24 (.fadr 23 0),o 25 (.ld false 1 24),m 26 0,o 27 (.nck 26),o 28 (.fadr 27 1),o 29 (.ld false 1 28),o 30 (.bin .sub 29 (k 1)),
 o 31 (.iadr none 1 25 30),o 32 (.ld false 1 31),m 33 1,o 34 (.call 224 [32,33]),m 4 34]
def c:ACode:=(.seq (.dr (.ops r0 false) [4] []) (.seq (.seq (.dr (.ops r1 true) [5,6,7,8,9,10,11,12,13] []) (.cond 14 (.seq (.dr (.ops r2 false) [0,1,14] []) .ret) .skip)) (.seq (.dr (.ops r3 false) [14,15,16,17,18,19,20,21] []) (.seq (.dr (.ops r4 true) [0,1,22,23,24,25,26,27,28,29,30,31,32,33,34] []) .ret))))
end make_Tape_Next
def make_Tape_Next:AFn:=⟨2,make_Tape_Next.c,[.tmp 4],false⟩
structure MakGLib (L:Lib):Prop extends RefHLib L where
 make_Mod:L 224=some F.make_Mod
 make_Tape_Next:L 225=some F.make_Tape_Next
end Go.Eng.F

namespace Go.Eng.F
open C
namespace slices_Grow_api_Rat_api_Rat
def r0:List AI:=[o 4 (.mov (.c .nil))]
def r1:List AI:=[m 5 1,o 6 (.bin .lss 5 (k 0))]
def r2:List AI:=[o 7 (.bad),n (.bad)]
def r3:List AI:=[m 8 1,m 9 0,o 10 (.capn 9),m 11 0,o 12 (.len 11),o 13 (.bin .sub 10 12),o 14 (.bin .sub 8 13),m 1 14]
def r4:List AI:=[m 15 1,o 16 (.bin .gtr 15 (k 0))]
def r5:List AI:=[m 17 0,m 18 0,o 19 (.capn 18),o 20 (.slc 3 17 none (some 19)),m 21 1,o 22 (.apz 227022 3 56 20 21),m 23 0,o 24 (.len 23),
 o 25 (.slc 3 22 none (some 24)),m 0 25]
def r6:List AI:=[m 26 0,m 4 26]
def c:ACode:=(.seq (.dr (.ops r0 false) [4] []) (.seq (.seq (.dr (.ops r1 false) [5] []) (.cond 6 (.dr (.ops r2 false) [6,7] []) .skip)) (.seq (.seq (.dr (.ops r3 false) [6,8,9,10,11,12,13,14] []) (.seq (.dr (.ops r4 false) [15] []) (.cond 16 (.dr (.ops r5 false) [1,16,17,18,19,20,21,22,23,24,25] []) .skip))) (.seq (.dr (.ops r6 false) [0,1,16,26] []) .ret))))
end slices_Grow_api_Rat_api_Rat
def slices_Grow_api_Rat_api_Rat:AFn:=⟨2,slices_Grow_api_Rat_api_Rat.c,[.tmp 4],false⟩
namespace slices_Concat_api_Rat_api_Rat
def r0:List AI:=[o 2 (.mov (.c .nil))]
def r1:List AI:=[o 3 (.mov (k 0))]
def r2:List AI:=[m 9 0,o 10 (.len 9),o 11 (.mov (k 0))]
def r3:List AI:=[o 12 (.bin .lss 11 10)]
def r4:List AI:=[o 13 (.iadr none 1 9 11),o 14 (.ld false 1 13),m 5 14]
def r5:List AI:=[m 15 3,m 16 5,o 17 (.len 16),o 18 (.bin .add 15 17),m 3 18]
def r6:List AI:=[m 19 3,o 20 (.bin .lss 19 (k 0))]
def r7:List AI:=[o 21 (.bad),n (.bad)]
def r8:List AI:=[o 22 (.bin .add 11 (k 1)),m 11 22]
def r9:List AI:=[m 23 3,o 24 (.calli 227 [(.c .nil),23]),m 6 24]
def r10:List AI:=[m 25 0,o 26 (.len 25),o 27 (.mov (k 0))]
def r11:List AI:=[o 28 (.bin .lss 27 26)]
def r12:List AI:=[o 29 (.iadr none 1 25 27),o 30 (.ld false 1 29),m 8 30]
def r13:List AI:=[m 31 6,m 32 8,o 33 (.app 33 3 56 31 32),m 6 33]
def r14:List AI:=[o 34 (.bin .add 27 (k 1)),m 27 34]
def r15:List AI:=[m 35 6,m 2 35]
def l1:ACode:=(.seq (.ops r3 false) (.seq (.cond 12 .skip (.exit 0)) (.seq (.block 1 (.seq (.dr (.ops r4 false) [12,13,14] []) (.seq (.dr (.ops r5 false) [5,15,16,17,18] []) (.seq (.dr (.ops r6 false) [19] []) (.cond 20 (.dr (.ops r7 false) [20,21] []) .skip))))) (.dr (.ops r8 false) [20,22] []))))
def l2:ACode:=(.seq (.ops r11 false) (.seq (.cond 28 .skip (.exit 2)) (.seq (.block 3 (.seq (.dr (.ops r12 false) [28,29,30] []) (.dr (.ops r13 false) [8,31,32,33] []))) (.dr (.ops r14 false) [34] []))))
def c:ACode:=(.seq (.dr (.ops r0 false) [2] []) (.seq (.ops r1 false) (.seq (.seq (.ops r2 false) (.block 0 (.loop l1))) (.seq (.dr (.ops r9 false) [3,9,10,11,12,23,24] []) (.seq (.seq (.dr (.ops r10 false) [0] []) (.block 2 (.loop l2))) (.seq (.dr (.ops r15 false) [6,25,26,27,28,35] []) .ret))))))
end slices_Concat_api_Rat_api_Rat
def slices_Concat_api_Rat_api_Rat:AFn:=⟨1,slices_Concat_api_Rat_api_Rat.c,[.tmp 2],false⟩
namespace linear_Valid
def r0:List AI:=[o 2 (.mov (.c (.bool false)))]
def r1:List AI:=[m 6 0,o 7 (.len 6),o 8 (.bin .lss 7 (k 1)),m 9 8,g 10 9 false (.mov 0),g 11 9 false (.len 10),g 12 9 false (.bin .gtr 11 (k 52)),
 o 13 (.pick 9 (.c (.bool true)) 12)]
def r2:List AI:=[o 2 (.mov (.c (.bool false)))]
def r3:List AI:=[m 14 0,o 15 (.iadr none 1 14 (k 0)),o 16 (.ld false 1 15),o 17 (.len 16),m 3 17]
def r4:List AI:=[m 18 0,o 19 (.len 18),o 20 (.mov (k 0))]
def r5:List AI:=[o 21 (.bin .lss 20 19)]
def r6:List AI:=[o 22 (.iadr none 1 18 20),o 23 (.ld false 1 22),m 5 23]
def r7:List AI:=[m 24 5,o 25 (.len 24),m 26 3,o 27 (.bin .neq 25 26)]
def r8:List AI:=[o 2 (.mov (.c (.bool false)))]
def r9:List AI:=[o 28 (.bin .add 20 (k 1)),m 20 28]
def r10:List AI:=[m 29 3,o 30 (.bin .geq 29 (k 1)),m 31 30,g 32 31 true (.mov 3),g 33 31 true (.bin .leq 32 (k 52)),o 34 (.pick 31 33 (.c (.bool false))),m 2 34]
def l1:ACode:=(.seq (.ops r5 false) (.seq (.cond 21 .skip (.exit 0)) (.seq (.block 1 (.seq (.dr (.ops r6 false) [21,22,23] []) (.seq (.dr (.ops r7 false) [5,24,25,26] []) (.cond 27 (.seq (.dr (.ops r8 false) [3,18,19,20,27] []) .ret) .skip)))) (.dr (.ops r9 false) [27,28] []))))
def c:ACode:=(.seq (.dr (.ops r0 false) [2] []) (.seq (.seq (.dr (.ops r1 false) [6,7,8,9,10,11,12] []) (.cond 13 (.seq (.dr (.ops r2 false) [0,13] []) .ret) .skip)) (.seq (.dr (.ops r3 false) [13,14,15,16,17] []) (.seq (.seq (.dr (.ops r4 false) [0] []) (.block 0 (.loop l1))) (.seq (.dr (.ops r10 false) [3,18,19,20,21,29,30,31,32,33,34] []) .ret)))))
end linear_Valid
def linear_Valid:AFn:=⟨1,linear_Valid.c,[.tmp 2],false⟩
namespace linear_wholeRows
def r0:List AI:=[o 2 (.mov (.c .nil)),o 3 (.mov (.c .nil))]
def r1:List AI:=[m 14 0,o 15 (.len 14),o 16 (.mk 231016 1 24 [.nil] 15 15),m 17 0,o 18 (.len 17),o 19 (.mk 231019 3 56 [(.bool false),.nil,.nil] 18 18),m 4 16,m 5 19]
def r2:List AI:=[m 20 0,o 21 (.len 20),o 22 (.mov (k 0))]
def r3:List AI:=[o 23 (.bin .lss 22 21)]
def r4:List AI:=[m 24 22,o 25 (.iadr none 1 20 22),o 26 (.ld false 1 25),m 6 24,m 7 26]
def r5:List AI:=[o 27 (.call 96 [(k 1)]),o 8 (.alloc 231008 [(.bool false),.nil,.nil]),n (.st 3 8 27)]
def r6:List AI:=[m 28 7,o 29 (.len 28),o 30 (.mov (k 0))]
def r7:List AI:=[o 31 (.bin .lss 30 29)]
def r8:List AI:=[o 32 (.iadr none 3 28 30),o 33 (.ld true 3 32),o 10 (.alloc 231010 [(.bool false),.nil,.nil]),n (.st 3 10 33)]
def r9:List AI:=[o 34 (.ld true 3 8),o 35 (.ld true 3 10),o 36 (.call 99 [34,35]),o 11 (.alloc 231011 [(.bool false),.nil,.nil]),n (.st 3 11 36)]
def r10:List AI:=[o 37 (.ld true 3 8),o 38 (.fadr 11 2),o 39 (.ld false 1 38),o 40 (.build [(.bool false),.nil] [(1,1,39)]),o 41 (.bslice 231041 1 [(.c (.int .u32 (1)))]),
 o 42 (.build [(.bool false),.nil,.nil] [(0,2,40),(2,1,41)]),o 43 (.call 99 [37,42]),n (.st 3 8 43)]
def r11:List AI:=[o 44 (.bin .add 30 (k 1)),m 30 44]
def r12:List AI:=[m 45 4,m 46 6,m 47 7,o 48 (.len 47),o 49 (.mk 231049 3 56 [(.bool false),.nil,.nil] 48 48),o 50 (.iadr none 1 45 46),n (.st 1 50 49)]
def r13:List AI:=[m 51 7,o 52 (.len 51),o 53 (.mov (k 0))]
def r14:List AI:=[o 54 (.bin .lss 53 52)]
def r15:List AI:=[m 55 53,o 56 (.iadr none 3 51 53),o 57 (.ld true 3 56),o 13 (.alloc 231013 [(.bool false),.nil,.nil]),m 12 55,n (.st 3 13 57)]
def r16:List AI:=[m 58 4,m 59 6,o 60 (.iadr none 1 58 59),o 61 (.ld false 1 60),m 62 12,o 63 (.ld true 3 13),o 64 (.ld true 3 8),o 65 (.call 99 [63,64]),
 o 66 (.iadr none 3 61 62),n (.st 3 66 65)]
def r17:List AI:=[o 67 (.bin .add 53 (k 1)),m 53 67]
def r18:List AI:=[m 68 5,m 69 6,o 70 (.ld true 3 8),o 71 (.iadr none 3 68 69),n (.st 3 71 70)]
def r19:List AI:=[o 72 (.bin .add 22 (k 1)),m 22 72]
def r20:List AI:=[m 73 4,m 74 5,m 2 73,m 3 74]
def l2:ACode:=(.seq (.ops r7 false) (.seq (.cond 31 .skip (.exit 2)) (.seq (.block 3 (.seq (.dr (.ops r8 false) [31,32,33] []) (.seq (.dr (.ops r9 false) [10,34,35,36] []) (.dr (.ops r10 false) [11,37,38,39,40,41,42,43] [])))) (.dr (.ops r11 false) [44] []))))
def l3:ACode:=(.seq (.ops r14 false) (.seq (.cond 54 .skip (.exit 4)) (.seq (.block 5 (.seq (.dr (.ops r15 false) [54,55,56,57] []) (.dr (.ops r16 true) [12,13,58,59,60,61,62,63,64,65,66] []))) (.dr (.ops r17 false) [67] []))))
def l1:ACode:=(.seq (.ops r3 false) (.seq (.cond 23 .skip (.exit 0)) (.seq (.block 1 (.seq (.dr (.ops r4 false) [23,24,25,26] []) (.seq (.dr (.ops r5 false) [27] []) (.seq (.seq (.ops r6 false) (.block 2 (.loop l2))) (.seq (.dr (.ops r12 false) [28,29,30,31,45,46,47,48,49,50] []) (.seq (.seq (.dr (.ops r13 false) [7] []) (.block 4 (.loop l3))) (.dr (.ops r18 false) [6,8,51,52,53,54,68,69,70,71] []))))))) (.dr (.ops r19 false) [72] []))))
def c:ACode:=(.seq (.dr (.ops r0 false) [2,3] []) (.seq (.dr (.ops r1 true) [14,15,16,17,18,19] []) (.seq (.seq (.dr (.ops r2 false) [0] []) (.block 0 (.loop l1))) (.seq (.dr (.ops r20 false) [4,5,20,21,22,23,73,74] []) .ret))))
end linear_wholeRows
def linear_wholeRows:AFn:=⟨1,linear_wholeRows.c,[.tmp 2,.tmp 3],false⟩
namespace linear_sweep
def r0:List AI:=[o 7 (.box 900007 3)]
def r1:List AI:=[m 12 1,m 13 2,o 14 (.iadr none 3 12 13),⟨some 15,.ld true 3 14,none,[900008,900009]⟩,m 16 0,m 17 2,o 18 (.iadr none 3 16 17),
 ⟨some 19,.ld true 3 18,none,[900008,900009,900008]⟩,o 8 (.alloc 900008 [(.bool false),.nil,.nil]),o 9 (.alloc 900009 [(.bool false),.nil,.nil]),
 n (.sto 900008 3 8 15),n (.st 3 9 19)]
def r2:List AI:=[m 20 2,m 10 20]
def r3:List AI:=[m 21 10,m 22 0,o 23 (.len 22),o 24 (.bin .lss 21 23)]
def r5:List AI:=[m 27 0,m 28 10,o 29 (.iadr none 3 27 28),⟨some 30,.ld true 3 29,none,[900011]⟩,⟨some 31,.ld true 3 8,none,[900011]⟩,
 ⟨some 32,.call 99 [30,31],none,[900011]⟩,m 33 1,m 34 10,o 35 (.iadr none 3 33 34),⟨some 36,.ld true 3 35,none,[900011]⟩,
 ⟨some 37,.ld true 3 9,none,[900011]⟩,⟨some 38,.call 99 [36,37],none,[900011]⟩,⟨some 39,.call 150 [32,38],none,[900011]⟩,
 o 11 (.alloc 900011 [(.bool false),.nil,.nil]),n (.st 3 11 39)]
def r6:List AI:=[m 41 0,m 42 10,o 43 (.ld true 3 11),o 44 (.ld true 3 7),o 45 (.call 100 [43,44]),m 40 45,o 46 (.ext 40 0),o 47 (.ext 40 1),o 48 (.iadr none 3 41 42),
 n (.st 3 48 46)]
def r4:List AI:=[m 25 10,o 26 (.bin .add 25 (k 1)),m 10 26]
def l1:ACode:=(.seq (.seq (.dr (.ops r3 false) [21,22,23] []) (.cond 24 .skip (.exit 0))) (.seq (.block 1 (.seq (.dr (.ops r5 true) [24,27,28,29,30,31,32,33,34,35,36,37,38,39] []) (.dr (.ops r6 false) [11,40,41,42,43,44,45,46,47,48] []))) (.dr (.ops r4 false) [25,26] [])))
def c:ACode:=(.seq (.dr (.ops r0 false) [3] []) (.seq (.dr (.ops r1 true) [12,13,14,15,16,17,18,19] []) (.seq (.dr (.ops r2 false) [2,20] []) (.block 0 (.loop l1)))))
end linear_sweep
def linear_sweep:AFn:=⟨4,linear_sweep.c,[],false⟩
namespace linear_eliminate
def r0:List AI:=[o 4 (.mov (k 0)),o 5 (.alloc 233005 [(.bool false),.nil,.nil]),o 6 (.mov (.c (.bool false)))]
def r1:List AI:=[o 7 (.mov (k 0)),o 8 (.mov (k 0)),o 9 (.mov (.c (.bool false)))]
def r2:List AI:=[o 13 (.call 96 [(k 1)]),o 10 (.alloc 233010 [(.bool false),.nil,.nil]),n (.st 3 10 13)]
def r3:List AI:=[m 14 7,m 15 0,o 16 (.len 15),o 17 (.bin .lss 14 16)]
def r4:List AI:=[m 18 8,m 19 1,o 20 (.bin .lss 18 19)]
def r6:List AI:=[m 23 7,m 11 23]
def r7:List AI:=[m 24 11,m 25 0,o 26 (.len 25),o 27 (.bin .lss 24 26)]
def r9:List AI:=[m 30 0,m 31 11,o 32 (.iadr none 1 30 31),o 33 (.ld false 1 32),m 34 8,o 35 (.iadr none 3 33 34),o 36 (.ld true 3 35),o 37 (.call 97 [36]),
 o 38 (.bin .neq 37 (k 0))]
def r10:List AI:=[m 39 11,m 40 7,o 41 (.bin .neq 39 40)]
def r11:List AI:=[m 42 0,m 43 11,m 44 0,m 45 7,m 46 0,m 47 7,o 48 (.iadr none 1 46 47),o 49 (.ld false 1 48),m 50 0,m 51 11,o 52 (.iadr none 1 50 51),
 o 53 (.ld false 1 52),o 54 (.iadr none 1 42 43),n (.st 1 54 49),o 55 (.iadr none 1 44 45),n (.st 1 55 53)]
def r12:List AI:=[m 56 9,o 57 (.un .not 56),m 9 57]
def r8:List AI:=[m 28 11,o 29 (.bin .add 28 (k 1)),m 11 29]
def r5:List AI:=[m 21 8,o 22 (.bin .add 21 (k 1)),m 8 22]
def r13:List AI:=[m 58 8,m 59 1,o 60 (.bin .geq 58 59)]
def r14:List AI:=[m 61 7,o 62 (.bin .add 61 (k 1)),m 12 62]
def r15:List AI:=[m 63 12,m 64 0,o 65 (.len 64),o 66 (.bin .lss 63 65)]
def r17:List AI:=[m 69 0,m 70 12,o 71 (.iadr none 1 69 70),o 72 (.ld false 1 71),m 73 0,m 74 7,o 75 (.iadr none 1 73 74),o 76 (.ld false 1 75),m 77 8,
 o 78 (.ld true 3 10),o 79 (.calli 900 [72,76,77,78])]
def r16:List AI:=[m 67 12,o 68 (.bin .add 67 (k 1)),m 12 68]
def r18:List AI:=[m 80 0,m 81 7,o 82 (.iadr none 1 80 81),o 83 (.ld false 1 82),m 84 8,o 85 (.iadr none 3 83 84),o 86 (.ld true 3 85),n (.st 3 10 86)]
def r19:List AI:=[m 87 7,o 88 (.bin .add 87 (k 1)),m 7 88]
def r20:List AI:=[m 89 8,o 90 (.bin .add 89 (k 1)),m 8 90]
def r21:List AI:=[m 91 7,o 92 (.ld true 3 10),m 93 9,m 4 91,n (.st 3 5 92),m 6 93]
def l3:ACode:=(.seq (.seq (.dr (.ops r7 false) [24,25,26] []) (.cond 27 .skip (.exit 4))) (.seq (.block 5 (.seq (.dr (.ops r9 false) [27,30,31,32,33,34,35,36,37] []) (.cond 38 (.seq (.seq (.dr (.ops r10 false) [38,39,40] []) (.cond 41 (.seq (.dr (.ops r11 true) [11,41,42,43,44,45,46,47,48,49,50,51,52,53,54,55] []) (.dr (.ops r12 false) [56,57] [])) .skip)) (.exit 2)) .skip))) (.dr (.ops r8 false) [28,29,38] [])))
def l2:ACode:=(.seq (.seq (.dr (.ops r4 false) [17,18,19] []) (.cond 20 .skip (.exit 2))) (.seq (.block 3 (.seq (.dr (.ops r6 false) [20,23] []) (.block 4 (.loop l3)))) (.dr (.ops r5 false) [11,21,22,27] [])))
def l4:ACode:=(.seq (.seq (.dr (.ops r15 false) [63,64,65] []) (.cond 66 .skip (.exit 6))) (.seq (.block 7 (.dr (.ops r17 true) [66,69,70,71,72,73,74,75,76,77,78,79] [])) (.dr (.ops r16 false) [67,68] [])))
def l1:ACode:=(.seq (.seq (.dr (.ops r3 false) [14,15,16] []) (.cond 17 .skip (.exit 0))) (.block 1 (.scope (.seq .skip (.seq (.block 2 (.loop l2)) (.seq (.seq (.dr (.ops r13 false) [11,20,41,58,59] []) (.cond 60 (.exit 0) .skip)) (.seq (.seq (.dr (.ops r14 false) [60,61,62] []) (.block 6 (.loop l4))) (.seq (.dr (.ops r18 false) [12,66,80,81,82,83,84,85,86] []) (.seq (.dr (.ops r19 false) [87,88] []) (.dr (.ops r20 false) [89,90] []))))))))))
def c:ACode:=(.seq (.dr (.ops r0 false) [4,6] []) (.seq (.ops r1 false) (.seq (.dr (.ops r2 false) [13] []) (.seq (.block 0 (.loop l1)) (.seq (.dr (.ops r21 true) [0,1,7,8,9,10,17,60,91,92,93] []) .ret)))))
end linear_eliminate
def linear_eliminate:AFn:=⟨2,linear_eliminate.c,[.tmp 4,.cell 5 true 3,.tmp 6],false⟩
namespace linear_column
def r0:List AI:=[o 5 (.box 5 2),o 6 (.mov (.c .nil))]
def r1:List AI:=[m 11 0,o 12 (.len 11),o 13 (.mk 13 3 56 [(.bool false),.nil,.nil] 12 12),m 7 13]
def r2:List AI:=[m 14 0,o 15 (.len 14),o 16 (.bin .sub 15 (k 1)),m 8 16]
def r3:List AI:=[m 17 8,o 18 (.bin .geq 17 (k 0))]
def r5:List AI:=[m 21 0,m 22 8,o 23 (.iadr none 1 21 22),⟨some 24,.ld false 1 23,none,[9]⟩,m 25 1,o 26 (.iadr none 3 24 25),⟨some 27,.ld true 3 26,none,[9]⟩,
 ⟨some 28,.ld true 3 5,none,[9]⟩,⟨some 29,.call 99 [27,28],none,[9]⟩,o 9 (.alloc 9 [(.bool false),.nil,.nil]),n (.st 3 9 29)]
def r6:List AI:=[m 30 8,o 31 (.bin .add 30 (k 1)),m 10 31]
def r7:List AI:=[m 32 10,m 33 0,o 34 (.len 33),o 35 (.bin .lss 32 34)]
def r9:List AI:=[o 38 (.ld true 3 9),m 39 0,m 40 8,o 41 (.iadr none 1 39 40),o 42 (.ld false 1 41),m 43 10,o 44 (.iadr none 3 42 43),o 45 (.ld true 3 44),m 46 7,
 m 47 10,o 48 (.iadr none 3 46 47),o 49 (.ld true 3 48),o 50 (.call 99 [45,49]),o 51 (.call 150 [38,50]),n (.st 3 9 51)]
def r8:List AI:=[m 36 10,o 37 (.bin .add 36 (k 1)),m 10 37]
def r10:List AI:=[m 53 7,m 54 8,o 55 (.ld true 3 9),m 56 0,m 57 8,o 58 (.iadr none 1 56 57),o 59 (.ld false 1 58),m 60 8,o 61 (.iadr none 3 59 60),o 62 (.ld true 3 61),
 o 63 (.call 100 [55,62]),m 52 63,o 64 (.ext 52 0),o 65 (.ext 52 1),o 66 (.iadr none 3 53 54),n (.st 3 66 64)]
def r4:List AI:=[m 19 8,o 20 (.bin .sub 19 (k 1)),m 8 20]
def r11:List AI:=[m 67 7,m 6 67]
def l2:ACode:=(.seq (.seq (.dr (.ops r7 false) [32,33,34] []) (.cond 35 .skip (.exit 2))) (.seq (.block 3 (.dr (.ops r9 true) [35,38,39,40,41,42,43,44,45,46,47,48,49,50,51] [])) (.dr (.ops r8 false) [36,37] [])))
def l1:ACode:=(.seq (.seq (.dr (.ops r3 false) [17] []) (.cond 18 .skip (.exit 0))) (.seq (.block 1 (.seq (.dr (.ops r5 true) [18,21,22,23,24,25,26,27,28,29] []) (.seq (.seq (.dr (.ops r6 false) [30,31] []) (.block 2 (.loop l2))) (.dr (.ops r10 true) [9,10,35,52,53,54,55,56,57,58,59,60,61,62,63,64,65,66] [])))) (.dr (.ops r4 false) [19,20] [])))
def c:ACode:=(.seq (.dr (.ops r0 false) [2,6] []) (.seq (.dr (.ops r1 false) [11,12,13] []) (.seq (.seq (.dr (.ops r2 false) [14,15,16] []) (.block 0 (.loop l1))) (.seq (.dr (.ops r11 false) [0,1,5,7,8,18,67] []) .ret))))
end linear_column
def linear_column:AFn:=⟨3,linear_column.c,[.tmp 6],false⟩
namespace linear_solve
def r0:List AI:=[o 4 (.mov (.c .nil)),o 5 (.mov (k 0))]
def r1:List AI:=[m 19 0,o 20 (.len 19),m 6 20]
def r2:List AI:=[m 21 6,o 22 (.mk 22 1 24 [.nil] 21 21),m 7 22]
def r3:List AI:=[m 23 7,o 24 (.len 23),o 25 (.mov (k 0))]
def r4:List AI:=[o 26 (.bin .lss 25 24)]
def r5:List AI:=[m 27 25,m 8 27]
def r6:List AI:=[m 28 7,m 29 8,m 30 0,m 31 8,o 32 (.iadr none 1 30 31),o 33 (.ld false 1 32),m 34 1,m 35 8,o 36 (.iadr none 1 34 35),o 37 (.ld false 1 36),
 o 38 (.bslice 38 1 [33,37]),o 39 (.call 228 [38]),o 40 (.iadr none 1 28 29),n (.st 1 40 39)]
def r7:List AI:=[o 41 (.bin .add 25 (k 1)),m 25 41]
def r8:List AI:=[m 43 7,o 44 (.calli 231 [43]),m 42 44,o 45 (.ext 42 0),o 46 (.ext 42 1),m 9 45,m 10 46]
def r9:List AI:=[m 48 9,m 49 6,o 50 (.calli 233 [48,49]),m 47 50,o 51 (.ext 47 0),o 52 (.ext 47 1),o 53 (.ext 47 2),o 12 (.alloc 12 [(.bool false),.nil,.nil]),
 m 11 51,n (.st 3 12 52),m 13 53]
def r10:List AI:=[m 54 11,m 55 6,o 56 (.bin .lss 54 55)]
def r11:List AI:=[o 4 (.mov (.c .nil)),o 5 (.mov (k 11))]
def r12:List AI:=[m 57 6,o 58 (.mk 58 1 24 [.nil] 57 57),m 14 58]
def r13:List AI:=[m 59 14,o 60 (.len 59),o 61 (.mov (k 0))]
def r14:List AI:=[o 62 (.bin .lss 61 60)]
def r15:List AI:=[m 63 61,m 15 63]
def r16:List AI:=[m 64 14,m 65 15,m 66 1,m 67 15,o 68 (.iadr none 1 66 67),o 69 (.ld false 1 68),o 70 (.len 69),o 71 (.mk 71 3 56 [(.bool false),.nil,.nil] 70 70),
 o 72 (.iadr none 1 64 65),n (.st 1 72 71)]
def r17:List AI:=[o 73 (.bin .add 61 (k 1)),m 61 73]
def r18:List AI:=[m 74 1,o 75 (.iadr none 1 74 (k 0)),o 76 (.ld false 1 75),o 77 (.len 76),o 78 (.mov (k 0))]
def r19:List AI:=[o 79 (.bin .lss 78 77)]
def r20:List AI:=[m 80 78,m 16 80]
def r21:List AI:=[m 81 9,m 82 6,m 83 16,o 84 (.bin .add 82 83),o 85 (.ld true 3 12),o 86 (.call 234 [81,84,85]),o 87 (.len 86),o 88 (.mov (k 0))]
def r22:List AI:=[o 89 (.bin .lss 88 87)]
def r23:List AI:=[m 90 88,o 91 (.iadr none 3 86 88),o 92 (.ld true 3 91),o 18 (.alloc 18 [(.bool false),.nil,.nil]),m 17 90,n (.st 3 18 92)]
def r24:List AI:=[m 94 14,m 95 17,o 96 (.iadr none 1 94 95),o 97 (.ld false 1 96),m 98 16,o 99 (.ld true 3 18),o 100 (.ld true 3 12),o 101 (.call 100 [99,100]),m 93 101,
 o 102 (.ext 93 0),o 103 (.ext 93 1),o 104 (.iadr none 3 97 98),n (.st 3 104 102)]
def r25:List AI:=[o 105 (.bin .add 88 (k 1)),m 88 105]
def r26:List AI:=[o 106 (.bin .add 78 (k 1)),m 78 106]
def r27:List AI:=[m 107 14,m 4 107,o 5 (.mov (k 0))]
def l1:ACode:=(.seq (.ops r4 false) (.seq (.cond 26 .skip (.exit 0)) (.seq (.block 1 (.seq (.dr (.ops r5 false) [26,27] []) (.dr (.ops r6 true) [8,28,29,30,31,32,33,34,35,36,37,38,39,40] []))) (.dr (.ops r7 false) [41] []))))
def l2:ACode:=(.seq (.ops r14 false) (.seq (.cond 62 .skip (.exit 2)) (.seq (.block 3 (.seq (.dr (.ops r15 false) [62,63] []) (.dr (.ops r16 false) [15,64,65,66,67,68,69,70,71,72] []))) (.dr (.ops r17 false) [73] []))))
def l4:ACode:=(.seq (.ops r22 false) (.seq (.cond 89 .skip (.exit 6)) (.seq (.block 7 (.seq (.dr (.ops r23 false) [89,90,91,92] []) (.dr (.ops r24 true) [17,18,93,94,95,96,97,98,99,100,101,102,103,104] []))) (.dr (.ops r25 false) [105] []))))
def l3:ACode:=(.seq (.ops r19 false) (.seq (.cond 79 .skip (.exit 4)) (.seq (.block 5 (.seq (.dr (.ops r20 false) [79,80] []) (.seq (.dr (.ops r21 false) [81,82,83,84,85] []) (.block 6 (.loop l4))))) (.dr (.ops r26 false) [16,86,87,88,89,106] []))))
def c:ACode:=(.seq (.dr (.ops r0 false) [4,5] []) (.seq (.dr (.ops r1 false) [19,20] []) (.seq (.dr (.ops r2 false) [21,22] []) (.seq (.seq (.dr (.ops r3 false) [23] []) (.block 0 (.loop l1))) (.seq (.dr (.ops r8 false) [0,7,10,24,25,26,42,43,44,45,46] []) (.seq (.dr (.ops r9 false) [13,47,48,49,50,51,52,53] []) (.seq (.seq (.dr (.ops r10 false) [11,54,55] []) (.cond 56 (.seq (.dr (.ops r11 false) [1,6,9,12,56] []) .ret) .skip)) (.seq (.dr (.ops r12 false) [56,57,58] []) (.seq (.seq (.dr (.ops r13 false) [59] []) (.block 2 (.loop l2))) (.seq (.seq (.dr (.ops r18 false) [1,60,61,62,74,75,76] []) (.block 4 (.loop l3))) (.seq (.dr (.ops r27 false) [6,9,12,14,77,78,79,107] []) .ret)))))))))))
end linear_solve
def linear_solve:AFn:=⟨2,linear_solve.c,[.tmp 4,.tmp 5],false⟩
namespace linear_Solve
def r0:List AI:=[o 4 (.mov (.c .nil)),o 5 (.mov (k 0))]
def r1:List AI:=[m 13 0,o 14 (.call 229 [13]),o 15 (.un .not 14)]
def r2:List AI:=[o 4 (.mov (.c .nil)),o 5 (.mov (k 2))]
def r3:List AI:=[m 16 0,o 17 (.iadr none 1 16 (k 0)),o 18 (.ld false 1 17),o 19 (.len 18),m 20 0,o 21 (.len 20),o 22 (.bin .neq 19 21),m 23 22,g 24 23 false (.mov 1),
 g 25 23 false (.len 24),g 26 23 false (.mov 0),g 27 23 false (.len 26),g 28 23 false (.bin .neq 25 27),o 29 (.pick 23 (.c (.bool true)) 28)]
def r4:List AI:=[o 4 (.mov (.c .nil)),o 5 (.mov (k 1))]
def r5:List AI:=[m 30 1,o 31 (.len 30),o 32 (.mk 32 1 24 [.nil] 31 31),m 6 32]
def r6:List AI:=[m 33 1,o 34 (.len 33),o 35 (.mov (k 0))]
def r7:List AI:=[o 36 (.bin .lss 35 34)]
def r8:List AI:=[m 37 35,o 38 (.iadr none 3 33 35),o 39 (.ld true 3 38),o 8 (.alloc 8 [(.bool false),.nil,.nil]),m 7 37,n (.st 3 8 39)]
def r9:List AI:=[m 40 6,m 41 7,o 42 (.ld true 3 8),o 43 (.bslice 43 3 [42]),o 44 (.iadr none 1 40 41),n (.st 1 44 43)]
def r10:List AI:=[o 45 (.bin .add 35 (k 1)),m 35 45]
def r11:List AI:=[m 47 0,m 48 6,o 49 (.call 235 [47,48]),m 46 49,o 50 (.ext 46 0),o 51 (.ext 46 1),m 9 50,m 10 51]
def r12:List AI:=[m 52 10,o 53 (.bin .neq 52 (k 0))]
def r13:List AI:=[m 54 10,o 4 (.mov (.c .nil)),m 5 54]
def r14:List AI:=[m 55 9,o 56 (.len 55),o 57 (.mk 57 3 56 [(.bool false),.nil,.nil] 56 56),m 11 57]
def r15:List AI:=[m 58 9,o 59 (.len 58),o 60 (.mov (k 0))]
def r16:List AI:=[o 61 (.bin .lss 60 59)]
def r17:List AI:=[m 62 60,m 12 62]
def r18:List AI:=[m 63 11,m 64 12,m 65 9,m 66 12,o 67 (.iadr none 1 65 66),o 68 (.ld false 1 67),o 69 (.iadr none 3 68 (k 0)),o 70 (.ld true 3 69),
 o 71 (.iadr none 3 63 64),n (.st 3 71 70)]
def r19:List AI:=[o 72 (.bin .add 60 (k 1)),m 60 72]
def r20:List AI:=[m 73 11,m 4 73,o 5 (.mov (k 0))]
def l1:ACode:=(.seq (.ops r7 false) (.seq (.cond 36 .skip (.exit 0)) (.seq (.block 1 (.seq (.dr (.ops r8 false) [36,37,38,39] []) (.dr (.ops r9 false) [7,8,40,41,42,43,44] []))) (.dr (.ops r10 false) [45] []))))
def l2:ACode:=(.seq (.ops r16 false) (.seq (.cond 61 .skip (.exit 2)) (.seq (.block 3 (.seq (.dr (.ops r17 false) [61,62] []) (.dr (.ops r18 false) [12,63,64,65,66,67,68,69,70,71] []))) (.dr (.ops r19 false) [72] []))))
def c:ACode:=(.seq (.dr (.ops r0 false) [4,5] []) (.seq (.seq (.dr (.ops r1 false) [13,14] []) (.cond 15 (.seq (.dr (.ops r2 false) [0,1,15] []) .ret) .skip)) (.seq (.seq (.dr (.ops r3 false) [15,16,17,18,19,20,21,22,23,24,25,26,27,28] []) (.cond 29 (.seq (.dr (.ops r4 false) [0,1,29] []) .ret) .skip)) (.seq (.dr (.ops r5 false) [29,30,31,32] []) (.seq (.seq (.dr (.ops r6 false) [1] []) (.block 0 (.loop l1))) (.seq (.dr (.ops r11 false) [0,6,33,34,35,36,46,47,48,49,50,51] []) (.seq (.seq (.dr (.ops r12 false) [52] []) (.cond 53 (.seq (.dr (.ops r13 false) [9,10,53,54] []) .ret) .skip)) (.seq (.dr (.ops r14 false) [10,53,55,56,57] []) (.seq (.seq (.dr (.ops r15 false) [58] []) (.block 2 (.loop l2))) (.seq (.dr (.ops r20 false) [9,11,59,60,61,73] []) .ret))))))))))
end linear_Solve
def linear_Solve:AFn:=⟨2,linear_Solve.c,[.tmp 4,.tmp 5],false⟩
structure MatGLib (L:Lib):Prop extends RatHLib L,StGLib L where
 slices_Grow_api_Rat_api_Rat:L 227=some F.slices_Grow_api_Rat_api_Rat
 slices_Concat_api_Rat_api_Rat:L 228=some F.slices_Concat_api_Rat_api_Rat
 linear_Valid:L 229=some F.linear_Valid
 linear_wholeRows:L 231=some F.linear_wholeRows
 linear_sweep:L 900=some F.linear_sweep
 linear_eliminate:L 233=some F.linear_eliminate
 linear_column:L 234=some F.linear_column
 linear_solve:L 235=some F.linear_solve
 linear_Solve:L 237=some F.linear_Solve
end Go.Eng.F

namespace Go.Eng.F
open C
namespace make_Rat
def r0:List AI:=[o 2 (.alloc 2 [(.bool false),.nil,.nil])]
def r1:List AI:=[m 3 0,o 4 (.call 224 [3,(k 25)]),o 5 (.bin .sub 4 (k 12)),m 6 0,o 7 (.bin .quo 6 (k 25)),o 8 (.call 224 [7,(k 8)]),o 9 (.bin .add (k 1) 8),
 o 10 (.call 125 [5,9]),n (.st 3 2 10)]
def c:ACode:=(.seq (.ops r0 false) (.seq (.dr (.ops r1 false) [0,3,4,5,6,7,8,9,10] []) .ret))
end make_Rat
def make_Rat:AFn:=⟨1,make_Rat.c,[.cell 2 true 3],false⟩
namespace make_Rats
def r0:List AI:=[o 2 (.mov (.c .nil))]
def r1:List AI:=[o 3 (.vrow 3 3)]
def r2:List AI:=[m 6 0,o 7 (.len 6),o 8 (.mov (k 0))]
def r3:List AI:=[o 9 (.bin .lss 8 7)]
def r4:List AI:=[o 10 (.iadr none 1 6 8),o 11 (.ld false 1 10),m 5 11]
def r5:List AI:=[m 12 3,m 13 5,o 14 (.call 252 [13]),o 15 (.bslice 15 3 [14]),o 16 (.app 16 3 56 12 15),m 3 16]
def r6:List AI:=[o 17 (.bin .add 8 (k 1)),m 8 17]
def r7:List AI:=[m 18 3,m 2 18]
def l1:ACode:=(.seq (.ops r3 false) (.seq (.cond 9 .skip (.exit 0)) (.seq (.block 1 (.seq (.dr (.ops r4 false) [9,10,11] []) (.dr (.ops r5 false) [5,12,13,14,15,16] []))) (.dr (.ops r6 false) [17] []))))
def c:ACode:=(.seq (.dr (.ops r0 false) [2] []) (.seq (.ops r1 false) (.seq (.seq (.dr (.ops r2 false) [0] []) (.block 0 (.loop l1))) (.seq (.dr (.ops r7 false) [3,6,7,8,9,18] []) .ret))))
end make_Rats
def make_Rats:AFn:=⟨1,make_Rats.c,[.tmp 2],false⟩
namespace make_Poly
def r0:List AI:=[o 4 (.mov (.c .nil))]
def r1:List AI:=[m 5 0,o 6 (.len 5),m 7 1,o 8 (.bin .add 7 (k 1)),o 9 (.bin .gtr 6 8)]
def r2:List AI:=[m 10 0,m 11 1,o 12 (.bin .add 11 (k 1)),o 13 (.slc 1 10 none (some 12)),m 0 13]
def r3:List AI:=[m 14 0,o 15 (.call 253 [14]),o 16 (.call 171 [15]),m 4 16]
def c:ACode:=(.seq (.dr (.ops r0 false) [4] []) (.seq (.seq (.dr (.ops r1 false) [5,6,7,8] []) (.cond 9 (.dr (.ops r2 false) [1,9,10,11,12,13] []) .skip)) (.seq (.dr (.ops r3 false) [0,1,9,14,15,16] []) .ret)))
end make_Poly
def make_Poly:AFn:=⟨2,make_Poly.c,[.tmp 4],false⟩
namespace make_Grid
def r0:List AI:=[o 2 (.mov (.c .nil))]
def r1:List AI:=[m 7 0,o 8 (.build [.nil,z] [(0,1,7)]),o 9 (.box 255009 8),m 3 9]
def r2:List AI:=[o 10 (.call 124 [(k (-1))]),o 4 (.alloc 255004 [(.bool false),.nil,.nil]),n (.st 3 4 10)]
def r3:List AI:=[o 5 (.vrow 255005 9)]
def r4:List AI:=[m 11 3,o 12 (.cals 255009 225 [11,(k 12)]),o 13 (.bin .add (k 1) 12),m 6 13]
def r5:List AI:=[m 14 6,o 15 (.bin .gtr 14 (k 0))]
def r7:List AI:=[m 18 5,⟨some 19,.ld true 3 4,none,[255009,255009,255009]⟩,m 20 3,o 21 (.cals 255009 225 [20,(k 200)]),o 22 (.call 252 [21]),m 23 3,
 o 24 (.cals 255009 225 [23,(k 8)]),o 25 (.bin .add (k 1) 24),m 26 3,o 27 (.cals 255009 225 [26,(k 4)]),o 28 (.bin .add (k 1) 27),
 o 29 (.call 125 [25,28]),
 o 30 (.build [(.bool false),.nil,.nil,(.bool false),.nil,.nil,(.bool false),.nil,.nil] [(0,3,19),(3,3,22),(6,3,29)]),
 o 31 (.bslice 255031 9 [30]),o 32 (.app 255032 9 168 18 31),m 5 32]
def r8:List AI:=[⟨some 33,.ld true 3 4,none,[255009]⟩,m 34 3,o 35 (.cals 255009 225 [34,(k 4)]),o 36 (.bin .add (k 1) 35),o 37 (.call 125 [36,(k 12)]),
 o 38 (.call 126 [33,37]),n (.st 3 4 38)]
def r6:List AI:=[m 16 6,o 17 (.bin .sub 16 (k 1)),m 6 17]
def r9:List AI:=[m 39 5,m 2 39]
def l1:ACode:=(.seq (.seq (.dr (.ops r5 false) [14] []) (.cond 15 .skip (.exit 0))) (.seq (.block 1 (.seq (.dr (.ops r7 true) [15,18,19,20,21,22,23,24,25,26,27,28,29,30,31,32] []) (.dr (.ops r8 true) [33,34,35,36,37,38] []))) (.dr (.ops r6 false) [16,17] [])))
def c:ACode:=(.seq (.dr (.ops r0 false) [2] []) (.seq (.dr (.ops r1 false) [0,7,8,9] []) (.seq (.dr (.ops r2 false) [10] []) (.seq (.ops r3 false) (.seq (.seq (.dr (.ops r4 false) [11,12,13] []) (.block 0 (.loop l1))) (.seq (.dr (.ops r9 false) [3,4,5,6,15,39] []) .ret))))))
end make_Grid
def make_Grid:AFn:=⟨1,make_Grid.c,[.tmp 2],false⟩
structure GrdGLib (L:Lib):Prop extends MakGLib L,R05GLib L where
 make_Rat:L 252=some F.make_Rat
 make_Rats:L 253=some F.make_Rats
 make_Poly:L 254=some F.make_Poly
 make_Grid:L 255=some F.make_Grid
end Go.Eng.F

namespace Go.Eng.F
open C
namespace rational_Abs
def r0:List AI:=[o 1 (.box 1 0),o 2 (.alloc 2 [(.bool false),.nil,.nil])]
def r1:List AI:=[o 3 (.fadr 1 0),o 4 (.fadr 3 1),o 5 (.ld false 1 4),o 6 (.build [(.bool false),.nil] [(1,1,5)]),o 7 (.fadr 1 2),o 8 (.ld false 1 7),
 o 9 (.build [(.bool false),.nil,.nil] [(0,2,6),(2,1,8)]),o 10 (.call 95 [9]),n (.st 3 2 10)]
def c:ACode:=(.seq (.dr (.ops r0 false) [0] []) (.seq (.dr (.ops r1 false) [1,3,4,5,6,7,8,9,10] []) .ret))
end rational_Abs
def rational_Abs:AFn:=⟨1,rational_Abs.c,[.cell 2 true 3],false⟩
namespace poly_parts
def r0:List AI:=[o 1 (.box 1 0),o 2 (.alloc 2 [(.bool false),.nil,.nil]),o 3 (.alloc 3 [(.bool false),.nil,.nil])]
def r1:List AI:=[o 5 (.bslice 5 1 [(.c (.int .u32 (1)))]),m 4 5]
def r2:List AI:=[o 6 (.fadr 1 0),o 7 (.ld true 2 6),m 8 4,o 9 (.build [(.bool false),.nil,.nil] [(0,2,7),(2,1,8)]),o 10 (.fadr 1 2),
 ⟨some 11,.ld false 1 10,none,[2]⟩,o 12 (.build [(.bool false),.nil] [(1,1,11)]),m 13 4,
 o 14 (.build [(.bool false),.nil,.nil] [(0,2,12),(2,1,13)]),n (.sto 2 3 2 9),n (.st 3 3 14)]
def c:ACode:=(.seq (.dr (.ops r0 false) [0] []) (.seq (.dr (.ops r1 false) [5] []) (.seq (.dr (.ops r2 true) [1,4,6,7,8,9,10,11,12,13,14] []) .ret)))
end poly_parts
def poly_parts:AFn:=⟨1,poly_parts.c,[.cell 2 true 3,.cell 3 true 3],false⟩
namespace poly_common
def r0:List AI:=[o 2 (.box 2 0),o 3 (.box 3 1),o 4 (.alloc 4 [(.bool false),.nil,.nil])]
def r1:List AI:=[o 11 (.ld true 3 2),o 12 (.call 97 [11]),o 13 (.bin .eql 12 (k 0))]
def r2:List AI:=[o 14 (.ld true 3 3),o 15 (.call 256 [14]),n (.st 3 4 15)]
def r3:List AI:=[o 17 (.ld true 3 2),o 18 (.ld true 3 3),o 19 (.call 100 [17,18]),m 16 19,o 20 (.ext 16 0),o 21 (.ext 16 1),o 5 (.alloc 5 [(.bool false),.nil,.nil]),
 n (.st 3 5 20),m 6 21]
def r4:List AI:=[m 22 6,o 23 (.bin .neq 22 (k 0))]
def r5:List AI:=[o 24 (.ld true 3 2),n (.st 3 4 24)]
def r6:List AI:=[o 26 (.ld true 3 5),o 27 (.call 257 [26]),m 25 27,o 28 (.ext 25 0),o 29 (.ext 25 1),o 7 (.alloc 7 [(.bool false),.nil,.nil]),
 o 8 (.alloc 8 [(.bool false),.nil,.nil]),n (.st 3 7 28),n (.st 3 8 29)]
def r7:List AI:=[o 31 (.ld true 3 2),o 32 (.ld true 3 7),o 33 (.call 100 [31,32]),m 30 33,o 34 (.ext 30 0),o 35 (.ext 30 1),o 9 (.alloc 9 [(.bool false),.nil,.nil]),
 n (.st 3 9 34),m 10 35]
def r8:List AI:=[o 36 (.ld true 3 9),o 37 (.call 256 [36]),n (.st 3 4 37)]
def c:ACode:=(.seq (.dr (.ops r0 false) [0,1] []) (.seq (.seq (.dr (.ops r1 false) [11,12] []) (.cond 13 (.seq (.dr (.ops r2 false) [2,3,13,14,15] []) .ret) .skip)) (.seq (.dr (.ops r3 false) [3,13,16,17,18,19,20,21] []) (.seq (.seq (.dr (.ops r4 false) [6,22] []) (.cond 23 (.seq (.dr (.ops r5 false) [2,5,23,24] []) .ret) .skip)) (.seq (.dr (.ops r6 false) [5,8,23,25,26,27,28,29] []) (.seq (.dr (.ops r7 false) [2,7,10,30,31,32,33,34,35] []) (.seq (.dr (.ops r8 false) [9,36,37] []) .ret)))))))
end poly_common
def poly_common:AFn:=⟨2,poly_common.c,[.cell 4 true 3],false⟩
namespace poly_split
def r0:List AI:=[o 2 (.alloc 2 [(.bool false),.nil,.nil]),o 3 (.mov (.c .nil))]
def r1:List AI:=[m 10 0,o 11 (.calli 169 [10]),m 0 11]
def r2:List AI:=[o 12 (.call 96 [(k 0)]),o 4 (.alloc 4 [(.bool false),.nil,.nil]),n (.st 3 4 12)]
def r3:List AI:=[m 13 0,o 14 (.len 13),o 15 (.mov (k 0))]
def r4:List AI:=[o 16 (.bin .lss 15 14)]
def r5:List AI:=[o 17 (.iadr none 3 13 15),o 18 (.ld true 3 17),o 6 (.alloc 6 [(.bool false),.nil,.nil]),n (.st 3 6 18)]
def r6:List AI:=[o 19 (.ld true 3 4),o 20 (.ld true 3 6),o 21 (.call 258 [19,20]),n (.st 3 4 21)]
def r7:List AI:=[o 22 (.bin .add 15 (k 1)),m 15 22]
def r8:List AI:=[m 23 0,o 24 (.len 23),o 25 (.mk 25 3 56 [(.bool false),.nil,.nil] 24 24),m 7 25]
def r9:List AI:=[m 26 0,o 27 (.len 26),o 28 (.mov (k 0))]
def r10:List AI:=[o 29 (.bin .lss 28 27)]
def r11:List AI:=[m 30 28,o 31 (.iadr none 3 26 28),o 32 (.ld true 3 31),o 9 (.alloc 9 [(.bool false),.nil,.nil]),m 8 30,n (.st 3 9 32)]
def r12:List AI:=[m 34 7,m 35 8,o 36 (.ld true 3 9),o 37 (.ld true 3 4),o 38 (.call 100 [36,37]),m 33 38,o 39 (.ext 33 0),o 40 (.ext 33 1),o 41 (.iadr none 3 34 35),
 n (.st 3 41 39)]
def r13:List AI:=[o 42 (.bin .add 28 (k 1)),m 28 42]
def r14:List AI:=[o 43 (.ld true 3 4),m 44 7,n (.st 3 2 43),m 3 44]
def l1:ACode:=(.seq (.ops r4 false) (.seq (.cond 16 .skip (.exit 0)) (.seq (.block 1 (.seq (.dr (.ops r5 false) [16,17,18] []) (.dr (.ops r6 false) [6,19,20,21] []))) (.dr (.ops r7 false) [22] []))))
def l2:ACode:=(.seq (.ops r10 false) (.seq (.cond 29 .skip (.exit 2)) (.seq (.block 3 (.seq (.dr (.ops r11 false) [29,30,31,32] []) (.dr (.ops r12 false) [8,9,33,34,35,36,37,38,39,40,41] []))) (.dr (.ops r13 false) [42] []))))
def c:ACode:=(.seq (.dr (.ops r0 false) [3] []) (.seq (.dr (.ops r1 false) [10,11] []) (.seq (.dr (.ops r2 false) [12] []) (.seq (.seq (.ops r3 false) (.block 0 (.loop l1))) (.seq (.dr (.ops r8 false) [13,14,15,16,23,24,25] []) (.seq (.seq (.dr (.ops r9 false) [0] []) (.block 2 (.loop l2))) (.seq (.dr (.ops r14 false) [4,7,26,27,28,29,43,44] []) .ret)))))))
end poly_split
def poly_split:AFn:=⟨1,poly_split.c,[.cell 2 true 3,.tmp 3],false⟩
namespace poly_Eval
def r0:List AI:=[o 3 (.box 3 1),o 4 (.alloc 4 [(.bool false),.nil,.nil])]
def r1:List AI:=[m 16 0,o 17 (.call 259 [16]),m 15 17,o 18 (.ext 15 0),o 19 (.ext 15 1),o 5 (.alloc 5 [(.bool false),.nil,.nil]),n (.st 3 5 18),m 6 19]
def r2:List AI:=[o 20 (.ld true 3 3),o 21 (.call 95 [20]),n (.st 3 3 21)]
def r3:List AI:=[o 23 (.ld true 3 3),o 24 (.call 257 [23]),m 22 24,o 25 (.ext 22 0),o 26 (.ext 22 1),o 7 (.alloc 7 [(.bool false),.nil,.nil]),
 o 8 (.alloc 8 [(.bool false),.nil,.nil]),n (.st 3 7 25),n (.st 3 8 26)]
def r4:List AI:=[o 27 (.call 96 [(k 0)]),o 28 (.call 96 [(k 1)]),o 9 (.alloc 9 [(.bool false),.nil,.nil]),o 10 (.alloc 10 [(.bool false),.nil,.nil]),n (.st 3 9 27),
 n (.st 3 10 28)]
def r5:List AI:=[m 29 6,o 30 (.len 29),o 31 (.mov (k 0))]
def r6:List AI:=[o 32 (.bin .lss 31 30)]
def r7:List AI:=[m 33 31,m 11 33]
def r8:List AI:=[m 34 11,o 35 (.bin .gtr 34 (k 0))]
def r9:List AI:=[o 36 (.ld true 3 10),o 37 (.ld true 3 8),o 38 (.call 99 [36,37]),n (.st 3 10 38)]
def r10:List AI:=[m 39 6,m 40 6,o 41 (.len 40),o 42 (.bin .sub 41 (k 1)),m 43 11,o 44 (.bin .sub 42 43),o 45 (.iadr none 3 39 44),o 46 (.ld true 3 45),
 o 12 (.alloc 12 [(.bool false),.nil,.nil]),n (.st 3 12 46)]
def r11:List AI:=[o 47 (.ld true 3 9),o 48 (.ld true 3 7),o 49 (.call 99 [47,48]),o 50 (.ld true 3 12),o 51 (.ld true 3 10),o 52 (.call 99 [50,51]),
 o 53 (.call 98 [49,52]),n (.st 3 9 53)]
def r12:List AI:=[o 54 (.bin .add 31 (k 1)),m 31 54]
def r13:List AI:=[o 56 (.ld true 3 9),o 57 (.ld true 3 10),o 58 (.call 100 [56,57]),m 55 58,o 59 (.ext 55 0),o 60 (.ext 55 1),o 13 (.alloc 13 [(.bool false),.nil,.nil]),
 n (.st 3 13 59),m 14 60]
def r14:List AI:=[o 61 (.ld true 3 5),o 62 (.ld true 3 13),o 63 (.call 99 [61,62]),n (.st 3 4 63)]
def l1:ACode:=(.seq (.ops r6 false) (.seq (.cond 32 .skip (.exit 0)) (.seq (.block 1 (.seq (.dr (.ops r7 false) [32,33] []) (.seq (.seq (.dr (.ops r8 false) [34] []) (.cond 35 (.dr (.ops r9 false) [35,36,37,38] []) .skip)) (.seq (.dr (.ops r10 false) [11,35,39,40,41,42,43,44,45,46] []) (.dr (.ops r11 true) [12,47,48,49,50,51,52,53] []))))) (.dr (.ops r12 false) [54] []))))
def c:ACode:=(.seq (.dr (.ops r0 false) [1] []) (.seq (.dr (.ops r1 false) [0,15,16,17,18,19] []) (.seq (.dr (.ops r2 false) [20,21] []) (.seq (.dr (.ops r3 false) [3,22,23,24,25,26] []) (.seq (.dr (.ops r4 false) [27,28] []) (.seq (.seq (.dr (.ops r5 false) [29] []) (.block 0 (.loop l1))) (.seq (.dr (.ops r13 false) [6,7,8,9,10,14,30,31,32,55,56,57,58,59,60] []) (.seq (.dr (.ops r14 false) [5,13,61,62,63] []) .ret))))))))
end poly_Eval
def poly_Eval:AFn:=⟨2,poly_Eval.c,[.cell 4 true 3],false⟩
structure PolELib (L:Lib):Prop extends StGLib L where
 rational_Abs:L 256=some F.rational_Abs
 poly_parts:L 257=some F.poly_parts
 poly_common:L 258=some F.poly_common
 poly_split:L 259=some F.poly_split
 poly_Eval:L 260=some F.poly_Eval
end Go.Eng.F

namespace Go.Eng.F
open C
namespace leastsq_Valid
def r0:List AI:=[o 2 (.mov (.c (.bool false)))]
def r1:List AI:=[m 5 0,o 6 (.len 5),o 7 (.bin .lss 6 (k 1)),m 8 7,g 9 8 false (.mov 0),g 10 8 false (.len 9),g 11 8 false (.bin .gtr 10 (k 200)),
 o 12 (.pick 8 (.c (.bool true)) 11)]
def r2:List AI:=[o 2 (.mov (.c (.bool false)))]
def r3:List AI:=[m 13 0,o 14 (.len 13),o 15 (.mov (k 0))]
def r4:List AI:=[o 16 (.bin .lss 15 14)]
def r5:List AI:=[m 17 15,o 18 (.iadr none 9 13 15),o 19 (.ld true 9 18),o 4 (.alloc 4 [(.bool false),.nil,.nil,(.bool false),.nil,.nil,(.bool false),.nil,.nil]),
 m 3 17,n (.st 9 4 19)]
def r6:List AI:=[o 20 (.fadr 4 6),o 21 (.ld true 3 20),o 22 (.call 97 [21]),o 23 (.bin .leq 22 (k 0)),m 24 23,g 25 24 false (.mov 3),g 26 24 false (.bin .gtr 25 (k 0)),
 g 27 24 false (.mov 26),g 28 27 true (.mov 0),g 29 27 true (.mov 3),g 30 27 true (.bin .sub 29 (k 1)),g 31 27 true (.iadr none 9 28 30),
 g 32 27 true (.fadr 31 0),g 33 27 true (.ld true 3 32),g 34 27 true (.fadr 4 0),g 35 27 true (.ld true 3 34),g 36 27 true (.call 198 [33,35]),
 g 37 27 true (.bin .geq 36 (k 0)),g 38 24 false (.pick 27 37 (.c (.bool false))),o 39 (.pick 24 (.c (.bool true)) 38)]
def r7:List AI:=[o 2 (.mov (.c (.bool false)))]
def r8:List AI:=[o 40 (.bin .add 15 (k 1)),m 15 40]
def r9:List AI:=[o 2 (.mov (.c (.bool true)))]
def l1:ACode:=(.seq (.ops r4 false) (.seq (.cond 16 .skip (.exit 0)) (.seq (.block 1 (.seq (.dr (.ops r5 false) [16,17,18,19] []) (.seq (.dr (.ops r6 true) [3,4,20,21,22,23,24,25,26,27,28,29,30,31,32,33,34,35,36,37,38] []) (.cond 39 (.seq (.dr (.ops r7 false) [0,13,14,15,39] []) .ret) .skip)))) (.dr (.ops r8 false) [39,40] []))))
def c:ACode:=(.seq (.dr (.ops r0 false) [2] []) (.seq (.seq (.dr (.ops r1 false) [5,6,7,8,9,10,11] []) (.cond 12 (.seq (.dr (.ops r2 false) [0,12] []) .ret) .skip)) (.seq (.seq (.dr (.ops r3 false) [12] []) (.block 0 (.loop l1))) (.seq (.dr (.ops r9 false) [0,13,14,15,16] []) .ret))))
end leastsq_Valid
def leastsq_Valid:AFn:=⟨1,leastsq_Valid.c,[.tmp 2],false⟩
namespace leastsq_Error
def r0:List AI:=[o 4 (.alloc 4 [(.bool false),.nil,.nil]),o 5 (.mov (k 0))]
def r1:List AI:=[m 10 0,o 11 (.call 261 [10]),o 12 (.un .not 11)]
def r2:List AI:=[o 13 (.build [(.bool false),.nil,.nil] []),n (.st 3 4 13),o 5 (.mov (k 2))]
def r3:List AI:=[o 14 (.call 96 [(k 0)]),o 6 (.alloc 6 [(.bool false),.nil,.nil]),n (.st 3 6 14)]
def r4:List AI:=[m 15 0,o 16 (.len 15),o 17 (.mov (k 0))]
def r5:List AI:=[o 18 (.bin .lss 17 16)]
def r6:List AI:=[o 19 (.iadr none 9 15 17),o 20 (.ld true 9 19),o 8 (.alloc 8 [(.bool false),.nil,.nil,(.bool false),.nil,.nil,(.bool false),.nil,.nil]),
 n (.st 9 8 20)]
def r7:List AI:=[m 21 1,o 22 (.fadr 8 0),⟨some 23,.ld true 3 22,none,[9]⟩,⟨some 24,.call 260 [21,23],none,[9]⟩,o 25 (.fadr 8 3),⟨some 26,.ld true 3 25,none,[9]⟩,
 ⟨some 27,.call 150 [24,26],none,[9]⟩,o 9 (.alloc 9 [(.bool false),.nil,.nil]),n (.st 3 9 27)]
def r8:List AI:=[o 28 (.ld true 3 6),o 29 (.fadr 8 6),o 30 (.ld true 3 29),o 31 (.ld true 3 9),o 32 (.ld true 3 9),o 33 (.call 99 [31,32]),o 34 (.call 99 [30,33]),
 o 35 (.call 98 [28,34]),n (.st 3 6 35)]
def r9:List AI:=[o 36 (.bin .add 17 (k 1)),m 17 36]
def r10:List AI:=[o 37 (.ld true 3 6),n (.st 3 4 37),o 5 (.mov (k 0))]
def l1:ACode:=(.seq (.ops r5 false) (.seq (.cond 18 .skip (.exit 0)) (.seq (.block 1 (.seq (.dr (.ops r6 false) [18,19,20] []) (.seq (.dr (.ops r7 true) [21,22,23,24,25,26,27] []) (.dr (.ops r8 true) [8,9,28,29,30,31,32,33,34,35] [])))) (.dr (.ops r9 false) [36] []))))
def c:ACode:=(.seq (.dr (.ops r0 false) [5] []) (.seq (.seq (.dr (.ops r1 false) [10,11] []) (.cond 12 (.seq (.dr (.ops r2 false) [0,1,12,13] []) .ret) .skip)) (.seq (.dr (.ops r3 false) [12,14] []) (.seq (.seq (.dr (.ops r4 false) [0] []) (.block 0 (.loop l1))) (.seq (.dr (.ops r10 false) [1,6,15,16,17,18,37] []) .ret)))))
end leastsq_Error
def leastsq_Error:AFn:=⟨2,leastsq_Error.c,[.cell 4 true 3,.tmp 5],false⟩
namespace leastsq_whole
def r0:List AI:=[o 2 (.mov (.c .nil)),o 3 (.alloc 3 [(.bool false),.nil,.nil])]
def r1:List AI:=[o 11 (.call 96 [(k 1)]),o 4 (.alloc 4 [(.bool false),.nil,.nil]),n (.st 3 4 11)]
def r2:List AI:=[m 12 0,o 13 (.len 12),o 14 (.mov (k 0))]
def r3:List AI:=[o 15 (.bin .lss 14 13)]
def r4:List AI:=[o 16 (.iadr none 3 12 14),o 17 (.ld true 3 16),o 6 (.alloc 6 [(.bool false),.nil,.nil]),n (.st 3 6 17)]
def r5:List AI:=[o 18 (.ld true 3 4),o 19 (.ld true 3 6),o 20 (.call 99 [18,19]),o 7 (.alloc 7 [(.bool false),.nil,.nil]),n (.st 3 7 20)]
def r6:List AI:=[o 21 (.ld true 3 4),o 22 (.fadr 7 2),o 23 (.ld false 1 22),o 24 (.build [(.bool false),.nil] [(1,1,23)]),o 25 (.bslice 25 1 [(.c (.int .u32 (1)))]),
 o 26 (.build [(.bool false),.nil,.nil] [(0,2,24),(2,1,25)]),o 27 (.call 99 [21,26]),n (.st 3 4 27)]
def r7:List AI:=[o 28 (.bin .add 14 (k 1)),m 14 28]
def r8:List AI:=[m 29 0,o 30 (.len 29),o 31 (.mk 31 3 56 [(.bool false),.nil,.nil] 30 30),m 8 31]
def r9:List AI:=[m 32 0,o 33 (.len 32),o 34 (.mov (k 0))]
def r10:List AI:=[o 35 (.bin .lss 34 33)]
def r11:List AI:=[m 36 34,o 37 (.iadr none 3 32 34),o 38 (.ld true 3 37),o 10 (.alloc 10 [(.bool false),.nil,.nil]),m 9 36,n (.st 3 10 38)]
def r12:List AI:=[m 39 8,m 40 9,o 41 (.ld true 3 10),o 42 (.ld true 3 4),o 43 (.call 99 [41,42]),o 44 (.iadr none 3 39 40),n (.st 3 44 43)]
def r13:List AI:=[o 45 (.bin .add 34 (k 1)),m 34 45]
def r14:List AI:=[m 46 8,o 47 (.ld true 3 4),m 2 46,n (.st 3 3 47)]
def l1:ACode:=(.seq (.ops r3 false) (.seq (.cond 15 .skip (.exit 0)) (.seq (.block 1 (.seq (.dr (.ops r4 false) [15,16,17] []) (.seq (.dr (.ops r5 false) [6,18,19,20] []) (.dr (.ops r6 false) [7,21,22,23,24,25,26,27] [])))) (.dr (.ops r7 false) [28] []))))
def l2:ACode:=(.seq (.ops r10 false) (.seq (.cond 35 .skip (.exit 2)) (.seq (.block 3 (.seq (.dr (.ops r11 false) [35,36,37,38] []) (.dr (.ops r12 false) [9,10,39,40,41,42,43,44] []))) (.dr (.ops r13 false) [45] []))))
def c:ACode:=(.seq (.dr (.ops r0 false) [2] []) (.seq (.dr (.ops r1 false) [11] []) (.seq (.seq (.ops r2 false) (.block 0 (.loop l1))) (.seq (.dr (.ops r8 false) [12,13,14,15,29,30,31] []) (.seq (.seq (.dr (.ops r9 false) [0] []) (.block 2 (.loop l2))) (.seq (.dr (.ops r14 true) [4,8,32,33,34,35,46,47] []) .ret))))))
end leastsq_whole
def leastsq_whole:AFn:=⟨1,leastsq_whole.c,[.tmp 2,.cell 3 true 3],false⟩
namespace leastsq_wholeGrid
def r0:List AI:=[o 2 (.alloc 2 [.nil,.nil,.nil,(.bool false),.nil,.nil,(.bool false),.nil,.nil])]
def r1:List AI:=[o 3 (.alloc 3 [.nil,.nil,.nil,(.bool false),.nil,.nil,(.bool false),.nil,.nil])]
def r2:List AI:=[m 6 0,o 7 (.len 6),o 8 (.mov (k 0))]
def r3:List AI:=[o 9 (.bin .lss 8 7)]
def r4:List AI:=[o 10 (.iadr none 9 6 8),o 11 (.ld true 9 10),o 5 (.alloc 5 [(.bool false),.nil,.nil,(.bool false),.nil,.nil,(.bool false),.nil,.nil]),n (.st 9 5 11)]
def r5:List AI:=[o 12 (.fadr 3 0),o 13 (.ld false 1 12),o 14 (.fadr 5 0),o 15 (.ld true 3 14),o 16 (.bslice 16 3 [15]),o 17 (.app 17 3 56 13 16),o 18 (.fadr 3 0),
 n (.st 1 18 17)]
def r6:List AI:=[o 19 (.fadr 3 1),o 20 (.ld false 1 19),o 21 (.fadr 5 3),o 22 (.ld true 3 21),o 23 (.bslice 23 3 [22]),o 24 (.app 24 3 56 20 23),o 25 (.fadr 3 1),
 n (.st 1 25 24)]
def r7:List AI:=[o 26 (.fadr 3 2),o 27 (.ld false 1 26),o 28 (.fadr 5 6),o 29 (.ld true 3 28),o 30 (.bslice 30 3 [29]),o 31 (.app 31 3 56 27 30),o 32 (.fadr 3 2),
 n (.st 1 32 31)]
def r8:List AI:=[o 33 (.bin .add 8 (k 1)),m 8 33]
def r9:List AI:=[o 35 (.fadr 3 0),o 36 (.ld false 1 35),o 37 (.call 263 [36]),m 34 37,o 38 (.ext 34 0),o 39 (.ext 34 1),o 40 (.fadr 3 0),n (.st 1 40 38),
 o 41 (.fadr 3 3),n (.st 3 41 39)]
def r10:List AI:=[o 43 (.fadr 3 1),o 44 (.ld false 1 43),o 45 (.call 263 [44]),m 42 45,o 46 (.ext 42 0),o 47 (.ext 42 1),o 48 (.fadr 3 1),n (.st 1 48 46),
 o 49 (.fadr 3 6),n (.st 3 49 47)]
def r11:List AI:=[o 51 (.fadr 3 2),o 52 (.ld false 1 51),o 53 (.call 263 [52]),m 50 53,o 54 (.ext 50 0),o 55 (.ext 50 1),o 56 (.fadr 3 2),n (.st 1 56 54)]
def r12:List AI:=[o 57 (.ld true 9 3),n (.st 9 2 57)]
def l1:ACode:=(.seq (.ops r3 false) (.seq (.cond 9 .skip (.exit 0)) (.seq (.block 1 (.seq (.dr (.ops r4 false) [9,10,11] []) (.seq (.dr (.ops r5 false) [12,13,14,15,16,17,18] []) (.seq (.dr (.ops r6 false) [19,20,21,22,23,24,25] []) (.dr (.ops r7 false) [5,26,27,28,29,30,31,32] []))))) (.dr (.ops r8 false) [33] []))))
def c:ACode:=(.seq (.ops r0 false) (.seq (.ops r1 false) (.seq (.seq (.dr (.ops r2 false) [0] []) (.block 0 (.loop l1))) (.seq (.dr (.ops r9 false) [6,7,8,9,34,35,36,37,38,39,40,41] []) (.seq (.dr (.ops r10 false) [42,43,44,45,46,47,48,49] []) (.seq (.dr (.ops r11 false) [50,51,52,53,54,55,56] []) (.seq (.dr (.ops r12 false) [3,57] []) .ret)))))))
end leastsq_wholeGrid
def leastsq_wholeGrid:AFn:=⟨1,leastsq_wholeGrid.c,[.cell 2 true 9],false⟩
namespace leastsq_equations
def r0:List AI:=[o 2 (.box 2 0),o 4 (.mov (.c .nil)),o 5 (.mov (.c .nil))]
def r1:List AI:=[m 18 1,o 19 (.bin .mul (k 2) 18),o 20 (.bin .sub 19 (k 1)),o 21 (.mk 21 3 56 [(.bool false),.nil,.nil] 20 20),m 22 1,
 o 23 (.mk 23 3 56 [(.bool false),.nil,.nil] 22 22),m 6 21,m 7 23]
def r2:List AI:=[o 24 (.fadr 2 2),o 25 (.ld false 1 24),m 8 25]
def r3:List AI:=[m 26 1,o 27 (.bin .mul (k 2) 26),o 28 (.bin .sub 27 (k 1)),o 29 (.mov (k 0))]
def r4:List AI:=[o 30 (.bin .lss 29 28)]
def r5:List AI:=[m 31 29,m 9 31]
def r6:List AI:=[m 32 6,m 33 9,o 34 (.call 96 [(k 0)]),o 35 (.iadr none 3 32 33),n (.st 3 35 34)]
def r7:List AI:=[m 36 8,o 37 (.len 36),o 38 (.mk 38 3 56 [(.bool false),.nil,.nil] 37 37),m 10 38]
def r8:List AI:=[m 39 8,o 40 (.len 39),o 41 (.mov (k 0))]
def r9:List AI:=[o 42 (.bin .lss 41 40)]
def r10:List AI:=[m 43 41,o 44 (.iadr none 3 39 41),o 45 (.ld true 3 44),o 12 (.alloc 12 [(.bool false),.nil,.nil]),m 11 43,n (.st 3 12 45)]
def r11:List AI:=[m 46 6,m 47 9,m 48 6,m 49 9,o 50 (.iadr none 3 48 49),o 51 (.ld true 3 50),o 52 (.ld true 3 12),o 53 (.call 98 [51,52]),o 54 (.iadr none 3 46 47),
 n (.st 3 54 53)]
def r12:List AI:=[m 55 10,m 56 11,o 57 (.ld true 3 12),o 58 (.fadr 2 0),o 59 (.ld false 1 58),m 60 11,o 61 (.iadr none 3 59 60),o 62 (.ld true 3 61),
 o 63 (.call 99 [57,62]),o 64 (.iadr none 3 55 56),n (.st 3 64 63)]
def r13:List AI:=[o 65 (.bin .add 41 (k 1)),m 41 65]
def r14:List AI:=[m 66 9,m 67 1,o 68 (.bin .lss 66 67)]
def r15:List AI:=[m 69 7,m 70 9,o 71 (.call 96 [(k 0)]),o 72 (.iadr none 3 69 70),n (.st 3 72 71)]
def r16:List AI:=[m 73 8,o 74 (.len 73),o 75 (.mov (k 0))]
def r17:List AI:=[o 76 (.bin .lss 75 74)]
def r18:List AI:=[m 77 75,o 78 (.iadr none 3 73 75),o 79 (.ld true 3 78),o 14 (.alloc 14 [(.bool false),.nil,.nil]),m 13 77,n (.st 3 14 79)]
def r19:List AI:=[m 80 7,m 81 9,m 82 7,m 83 9,o 84 (.iadr none 3 82 83),o 85 (.ld true 3 84),o 86 (.ld true 3 14),o 87 (.fadr 2 1),o 88 (.ld false 1 87),m 89 13,
 o 90 (.iadr none 3 88 89),o 91 (.ld true 3 90),o 92 (.call 99 [86,91]),o 93 (.call 98 [85,92]),o 94 (.iadr none 3 80 81),n (.st 3 94 93)]
def r20:List AI:=[o 95 (.bin .add 75 (k 1)),m 75 95]
def r21:List AI:=[m 96 10,m 8 96]
def r22:List AI:=[o 97 (.bin .add 29 (k 1)),m 29 97]
def r23:List AI:=[m 98 1,o 99 (.mk 99 1 24 [.nil] 98 98),m 15 99]
def r24:List AI:=[m 100 1,o 101 (.mov (k 0))]
def r25:List AI:=[o 102 (.bin .lss 101 100)]
def r26:List AI:=[m 103 101,m 16 103]
def r27:List AI:=[m 104 1,o 105 (.mov (k 0))]
def r28:List AI:=[o 106 (.bin .lss 105 104)]
def r29:List AI:=[m 107 105,m 17 107]
def r30:List AI:=[m 108 15,m 109 16,m 110 15,m 111 16,o 112 (.iadr none 1 110 111),⟨some 113,.ld false 1 112,none,[120]⟩,m 114 6,m 115 16,m 116 17,
 o 117 (.bin .add 115 116),o 118 (.iadr none 3 114 117),o 119 (.ld true 3 118),o 120 (.bslice 120 3 [119]),o 121 (.app 121 3 56 113 120),
 o 122 (.iadr none 1 108 109),n (.st 1 122 121)]
def r31:List AI:=[o 123 (.bin .add 105 (k 1)),m 105 123]
def r32:List AI:=[o 124 (.bin .add 101 (k 1)),m 101 124]
def r33:List AI:=[m 125 15,m 126 7,m 4 125,m 5 126]
def l2:ACode:=(.seq (.ops r9 false) (.seq (.cond 42 .skip (.exit 2)) (.seq (.block 3 (.seq (.dr (.ops r10 false) [42,43,44,45] []) (.seq (.dr (.ops r11 true) [46,47,48,49,50,51,52,53,54] []) (.dr (.ops r12 true) [11,12,55,56,57,58,59,60,61,62,63,64] [])))) (.dr (.ops r13 false) [65] []))))
def l3:ACode:=(.seq (.ops r17 false) (.seq (.cond 76 .skip (.exit 4)) (.seq (.block 5 (.seq (.dr (.ops r18 false) [76,77,78,79] []) (.dr (.ops r19 true) [13,14,80,81,82,83,84,85,86,87,88,89,90,91,92,93,94] []))) (.dr (.ops r20 false) [95] []))))
def l1:ACode:=(.seq (.ops r4 false) (.seq (.cond 30 .skip (.exit 0)) (.seq (.block 1 (.seq (.dr (.ops r5 false) [30,31] []) (.seq (.dr (.ops r6 false) [32,33,34,35] []) (.seq (.dr (.ops r7 false) [36,37,38] []) (.seq (.seq (.ops r8 false) (.block 2 (.loop l2))) (.seq (.seq (.dr (.ops r14 false) [39,40,41,42,66,67] []) (.cond 68 (.seq (.dr (.ops r15 false) [68,69,70,71,72] []) (.seq (.dr (.ops r16 false) [8] []) (.block 4 (.loop l3)))) .skip)) (.dr (.ops r21 false) [9,10,68,73,74,75,76,96] []))))))) (.dr (.ops r22 false) [97] []))))
def l5:ACode:=(.seq (.ops r28 false) (.seq (.cond 106 .skip (.exit 8)) (.seq (.block 9 (.seq (.dr (.ops r29 false) [106,107] []) (.dr (.ops r30 true) [17,108,109,110,111,112,113,114,115,116,117,118,119,120,121,122] []))) (.dr (.ops r31 false) [123] []))))
def l4:ACode:=(.seq (.ops r25 false) (.seq (.cond 102 .skip (.exit 6)) (.seq (.block 7 (.seq (.dr (.ops r26 false) [102,103] []) (.seq (.ops r27 false) (.block 8 (.loop l5))))) (.dr (.ops r32 false) [16,104,105,106,124] []))))
def c:ACode:=(.seq (.dr (.ops r0 false) [0,4,5] []) (.seq (.dr (.ops r1 true) [18,19,20,21,22,23] []) (.seq (.dr (.ops r2 false) [24,25] []) (.seq (.seq (.dr (.ops r3 false) [26,27] []) (.block 0 (.loop l1))) (.seq (.dr (.ops r23 false) [2,8,28,29,30,98,99] []) (.seq (.seq (.ops r24 false) (.block 6 (.loop l4))) (.seq (.dr (.ops r33 false) [1,6,7,15,100,101,102,125,126] []) .ret)))))))
end leastsq_equations
def leastsq_equations:AFn:=⟨2,leastsq_equations.c,[.tmp 4,.tmp 5],false⟩
namespace leastsq_Design
def r0:List AI:=[o 4 (.mov (.c .nil)),o 5 (.alloc 5 [(.bool false),.nil,.nil]),o 6 (.mov (k 0))]
def r1:List AI:=[m 18 0,o 19 (.call 261 [18]),o 20 (.un .not 19)]
def r2:List AI:=[o 21 (.build [(.bool false),.nil,.nil] []),o 4 (.mov (.c .nil)),n (.st 3 5 21),o 6 (.mov (k 2))]
def r3:List AI:=[m 22 1,o 23 (.bin .lss 22 (k 0)),m 24 23,g 25 24 false (.mov 1),g 26 24 false (.bin .gtr 25 (k 51)),o 27 (.pick 24 (.c (.bool true)) 26)]
def r4:List AI:=[o 28 (.build [(.bool false),.nil,.nil] []),o 4 (.mov (.c .nil)),n (.st 3 5 28),o 6 (.mov (k 12))]
def r5:List AI:=[m 29 0,o 30 (.len 29),m 31 1,o 32 (.bin .add 31 (k 1)),o 33 (.bin .lss 30 32)]
def r6:List AI:=[o 34 (.build [(.bool false),.nil,.nil] []),o 4 (.mov (.c .nil)),n (.st 3 5 34),o 6 (.mov (k 11))]
def r7:List AI:=[m 35 0,o 36 (.call 264 [35]),o 7 (.alloc 7 [.nil,.nil,.nil,(.bool false),.nil,.nil,(.bool false),.nil,.nil]),n (.st 9 7 36)]
def r8:List AI:=[o 38 (.ld true 9 7),m 39 1,o 40 (.bin .add 39 (k 1)),o 41 (.call 265 [38,40]),m 37 41,o 42 (.ext 37 0),o 43 (.ext 37 1),m 8 42,m 9 43]
def r9:List AI:=[m 45 8,m 46 9,o 47 (.call 237 [45,46]),m 44 47,o 48 (.ext 44 0),o 49 (.ext 44 1),m 10 48,m 11 49]
def r10:List AI:=[m 50 11,o 51 (.bin .neq 50 (k 0))]
def r11:List AI:=[o 52 (.build [(.bool false),.nil,.nil] []),m 53 11,o 4 (.mov (.c .nil)),n (.st 3 5 52),m 6 53]
def r12:List AI:=[m 54 1,o 55 (.bin .add 54 (k 1)),o 56 (.mk 56 3 56 [(.bool false),.nil,.nil] 55 55),m 12 56]
def r13:List AI:=[⟨some 58,.call 96 [(k 1)],none,[13]⟩,o 59 (.fadr 7 6),⟨some 60,.ld true 3 59,none,[13]⟩,⟨some 61,.call 100 [58,60],none,[13]⟩,m 57 61,
 o 62 (.ext 57 0),o 63 (.ext 57 1),o 13 (.alloc 13 [(.bool false),.nil,.nil]),n (.st 3 13 62),m 14 63]
def r14:List AI:=[m 64 1,o 65 (.bin .add 64 (k 1)),o 66 (.mov (k 0))]
def r15:List AI:=[o 67 (.bin .lss 66 65)]
def r16:List AI:=[m 68 66,m 15 68]
def r17:List AI:=[m 69 12,m 70 15,m 71 10,m 72 15,o 73 (.iadr none 3 71 72),o 74 (.ld true 3 73),o 75 (.ld true 3 13),o 76 (.call 99 [74,75]),o 77 (.iadr none 3 69 70),
 n (.st 3 77 76)]
def r18:List AI:=[o 78 (.ld true 3 13),o 79 (.fadr 7 3),o 80 (.ld true 3 79),o 81 (.call 99 [78,80]),n (.st 3 13 81)]
def r19:List AI:=[o 82 (.bin .add 66 (k 1)),m 66 82]
def r20:List AI:=[m 83 12,o 84 (.call 170 [83]),m 12 84]
def r21:List AI:=[m 86 0,m 87 12,o 88 (.call 262 [86,87]),m 85 88,o 89 (.ext 85 0),o 90 (.ext 85 1),o 16 (.alloc 16 [(.bool false),.nil,.nil]),n (.st 3 16 89),m 17 90]
def r22:List AI:=[m 91 12,o 92 (.ld true 3 16),m 4 91,n (.st 3 5 92),o 6 (.mov (k 0))]
def l1:ACode:=(.seq (.ops r15 false) (.seq (.cond 67 .skip (.exit 0)) (.seq (.block 1 (.seq (.dr (.ops r16 false) [67,68] []) (.seq (.dr (.ops r17 true) [15,69,70,71,72,73,74,75,76,77] []) (.dr (.ops r18 false) [78,79,80,81] [])))) (.dr (.ops r19 false) [82] []))))
def c:ACode:=(.seq (.dr (.ops r0 false) [4,6] []) (.seq (.seq (.dr (.ops r1 false) [18,19] []) (.cond 20 (.seq (.dr (.ops r2 false) [0,1,20,21] []) .ret) .skip)) (.seq (.seq (.dr (.ops r3 false) [20,22,23,24,25,26] []) (.cond 27 (.seq (.dr (.ops r4 false) [0,1,27,28] []) .ret) .skip)) (.seq (.seq (.dr (.ops r5 false) [27,29,30,31,32] []) (.cond 33 (.seq (.dr (.ops r6 false) [0,1,33,34] []) .ret) .skip)) (.seq (.dr (.ops r7 false) [33,35,36] []) (.seq (.dr (.ops r8 false) [37,38,39,40,41,42,43] []) (.seq (.dr (.ops r9 false) [8,9,44,45,46,47,48,49] []) (.seq (.seq (.dr (.ops r10 false) [50] []) (.cond 51 (.seq (.dr (.ops r11 false) [0,1,7,10,11,51,52,53] []) .ret) .skip)) (.seq (.dr (.ops r12 false) [11,51,54,55,56] []) (.seq (.dr (.ops r13 true) [14,57,58,59,60,61,62,63] []) (.seq (.seq (.dr (.ops r14 false) [1,64] []) (.block 0 (.loop l1))) (.seq (.dr (.ops r20 false) [7,10,13,65,66,67,83,84] []) (.seq (.dr (.ops r21 false) [0,17,85,86,87,88,89,90] []) (.seq (.dr (.ops r22 true) [12,16,91,92] []) .ret))))))))))))))
end leastsq_Design
def leastsq_Design:AFn:=⟨2,leastsq_Design.c,[.tmp 4,.cell 5 true 3,.tmp 6],false⟩
structure LsqGLib (L:Lib):Prop extends MatGLib L,PolELib L where
 leastsq_Valid:L 261=some F.leastsq_Valid
 leastsq_Error:L 262=some F.leastsq_Error
 leastsq_whole:L 263=some F.leastsq_whole
 leastsq_wholeGrid:L 264=some F.leastsq_wholeGrid
 leastsq_equations:L 265=some F.leastsq_equations
 leastsq_Design:L 266=some F.leastsq_Design
end Go.Eng.F

namespace Go.Eng.F
open C
namespace ref03_Less
def r0:List AI:=[o 2 (.box 2 0),o 3 (.box 3 1),o 4 (.mov (.c (.bool false)))]
def r1:List AI:=[o 5 (.ld true 3 2),o 6 (.ld true 3 3),o 7 (.call 127 [5,6]),o 8 (.bin .lss 7 (k 0)),m 4 8]
def c:ACode:=(.seq (.dr (.ops r0 false) [0,1,4] []) (.seq (.dr (.ops r1 false) [2,3,5,6,7,8] []) .ret))
end ref03_Less
def ref03_Less:AFn:=⟨2,ref03_Less.c,[.tmp 4],false⟩
structure R05HLib (L:Lib):Prop extends StGLib L where
 ref03_Less:L 268=some F.ref03_Less
end Go.Eng.F
