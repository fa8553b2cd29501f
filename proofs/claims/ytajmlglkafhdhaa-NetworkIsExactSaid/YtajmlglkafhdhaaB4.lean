/-
  Functions of the program, as the abstract machine reads them (group RatG). Written by a program (gen.py) off the model's own reading of the translation; the seat's check ties them to it.
-/
import Derived.Test.YtajmlglkafhdhaaB1
import Derived.Test.YtajmlglkafhdhaaB3
import Derived.IntWalk
set_option linter.unusedSimpArgs false
set_option linter.unusedVariables false
set_option linter.unnecessarySimpa false
namespace Go.Eng.F
open C
namespace integer_signed
def r0 : List AI := [o 4 (.alloc 83004 [(.bool false), .nil])]
def r1 : List AI := [m 5 0, m 6 5, g 7 6 true (.mov 1), g 8 6 true (.len 7), g 9 6 true (.bin .gtr 8 (k 0)), o 10 (.pick 6 9 (.c (.bool false))), m 11 1,
  o 12 (.build [(.bool false), .nil] [(0, 1, 10), (1, 1, 11)]), n (.st 2 4 12)]
def c : ACode := (.seq (.ops r0 false) (.seq (.dr (.ops r1 false) [0,1,5,6,7,8,9,10,11,12] []) .ret))
end integer_signed
def integer_signed : AFn := ⟨2, integer_signed.c, [.cell 4 true 2], false⟩
namespace integer_Trim
def r0 : List AI := [o 1 (.box 1 0), o 2 (.alloc 2 [(.bool false), .nil])]
def r1 : List AI := [o 3 (.fadr 1 0), o 4 (.ld false 1 3), o 5 (.fadr 1 1), o 6 (.ld false 1 5), o 7 (.call 66 [6]), o 8 (.calli 83 [4, 7]), n (.st 2 2 8)]
def c : ACode := (.seq (.dr (.ops r0 false) [0] []) (.seq (.dr (.ops r1 true) [1,3,4,5,6,7,8] []) .ret))
end integer_Trim
def integer_Trim : AFn := ⟨1, integer_Trim.c, [.cell 2 true 2], false⟩
namespace integer_Of
def r0 : List AI := [o 2 (.alloc 2 [(.bool false), .nil])]
def r1 : List AI := [m 4 0, o 5 (.conv .u64 4), m 3 5]
def r2 : List AI := [m 6 0, o 7 (.bin .lss 6 (k 0))]
def r3 : List AI := [m 8 3, o 9 (.un .neg 8), m 3 9]
def r4 : List AI := [m 10 0, o 11 (.bin .lss 10 (k 0)), m 12 3, o 13 (.conv .u32 12), m 14 3, o 15 (.bin .shr 14 (.c (.int .u64 (32)))), o 16 (.conv .u32 15),
  o 17 (.bslice 17 1 [13, 16]), o 18 (.call 66 [17]), o 19 (.calli 83 [11, 18]), n (.st 2 2 19)]
def c : ACode := (.seq (.ops r0 false) (.seq (.dr (.ops r1 false) [4,5] []) (.seq (.seq (.dr (.ops r2 false) [6] []) (.cond 7 (.dr (.ops r3 false) [7,8,9] []) .skip)) (.seq (.dr (.ops r4 false) [0,3,7,10,11,12,13,14,15,16,17,18,19] []) .ret))))
end integer_Of
def integer_Of : AFn := ⟨1, integer_Of.c, [.cell 2 true 2], false⟩
namespace integer_Sign
def r0 : List AI := [o 1 (.box 1 0), o 2 (.mov (k 0))]
def r1 : List AI := [o 4 (.fadr 1 1), o 5 (.ld false 1 4), o 6 (.call 67 [5, (.c .nil)]), o 7 (.bin .eql 6 (k 0)), m 3 7]
def r2 : List AI := [o 2 (.mov (k 0))]
def r3 : List AI := [o 9 (.fadr 1 0), o 10 (.ld false 1 9), m 8 10]
def r4 : List AI := [o 2 (.mov (k (-1)))]
def r5 : List AI := [o 2 (.mov (k 1))]
def c : ACode := (.seq (.dr (.ops r0 false) [0,2] []) (.seq (.block 0 (.seq (.dr (.ops r1 false) [4,5,6,7] []) (.cond 3 (.seq (.dr (.ops r2 false) [1,3] []) .ret) (.seq (.dr (.ops r3 false) [1,3,9,10] []) (.cond 8 (.seq (.dr (.ops r4 false) [8] []) .ret) .skip))))) (.seq (.dr (.ops r5 false) [8] []) .ret)))
end integer_Sign
def integer_Sign : AFn := ⟨1, integer_Sign.c, [.tmp 2], false⟩
namespace integer_Add
def r0 : List AI := [o 2 (.box 2 0), o 3 (.box 3 1), o 4 (.alloc 4 [(.bool false), .nil])]
def r1 : List AI := [o 5 (.fadr 2 0), o 6 (.ld false 1 5), o 7 (.fadr 3 0), o 8 (.ld false 1 7), o 9 (.beq false 6 8)]
def r2 : List AI := [o 10 (.fadr 2 0), o 11 (.ld false 1 10), o 12 (.fadr 2 1), o 13 (.ld false 1 12), o 14 (.fadr 3 1), o 15 (.ld false 1 14), o 16 (.call 68 [13, 15]),
  o 17 (.calli 83 [11, 16]), n (.st 2 4 17)]
def r3 : List AI := [o 18 (.fadr 2 1), o 19 (.ld false 1 18), o 20 (.fadr 3 1), o 21 (.ld false 1 20), o 22 (.call 67 [19, 21]), o 23 (.bin .eql 22 (k (-1)))]
def r4 : List AI := [o 24 (.fadr 3 0), o 25 (.ld false 1 24), o 26 (.fadr 3 1), o 27 (.ld false 1 26), o 28 (.fadr 2 1), o 29 (.ld false 1 28), o 30 (.call 69 [27, 29]),
  o 31 (.calli 83 [25, 30]), n (.st 2 4 31)]
def r5 : List AI := [o 32 (.fadr 2 0), o 33 (.ld false 1 32), o 34 (.fadr 2 1), o 35 (.ld false 1 34), o 36 (.fadr 3 1), o 37 (.ld false 1 36), o 38 (.call 69 [35, 37]),
  o 39 (.calli 83 [33, 38]), n (.st 2 4 39)]
def c : ACode := (.seq (.dr (.ops r0 false) [0,1] []) (.seq (.seq (.dr (.ops r1 false) [5,6,7,8] []) (.cond 9 (.seq (.dr (.ops r2 true) [2,3,9,10,11,12,13,14,15,16,17] []) .ret) .skip)) (.seq (.seq (.dr (.ops r3 false) [9,18,19,20,21,22] []) (.cond 23 (.seq (.dr (.ops r4 true) [2,3,23,24,25,26,27,28,29,30,31] []) .ret) .skip)) (.seq (.dr (.ops r5 true) [2,3,23,32,33,34,35,36,37,38,39] []) .ret))))
end integer_Add
def integer_Add : AFn := ⟨2, integer_Add.c, [.cell 4 true 2], false⟩
namespace integer_Mul
def r0 : List AI := [o 2 (.box 2 0), o 3 (.box 3 1), o 4 (.alloc 4 [(.bool false), .nil])]
def r1 : List AI := [o 5 (.fadr 2 0), o 6 (.ld false 1 5), o 7 (.fadr 3 0), o 8 (.ld false 1 7), o 9 (.beq true 6 8), o 10 (.fadr 2 1), o 11 (.ld false 1 10), o 12 (.fadr 3 1),
  o 13 (.ld false 1 12), o 14 (.call 70 [11, 13]), o 15 (.calli 83 [9, 14]), n (.st 2 4 15)]
def c : ACode := (.seq (.dr (.ops r0 false) [0,1] []) (.seq (.dr (.ops r1 true) [2,3,5,6,7,8,9,10,11,12,13,14,15] []) .ret))
end integer_Mul
def integer_Mul : AFn := ⟨2, integer_Mul.c, [.cell 4 true 2], false⟩
namespace rational_read
def r0 : List AI := [o 1 (.box 1 0), o 2 (.alloc 2 [(.bool false), .nil, .nil, (.bool false)])]
def r1 : List AI := [o 3 (.fadr 1 2), o 4 (.ld false 1 3), o 5 (.len 4), o 6 (.bin .eql 5 (k 1)), m 7 6, g 8 7 true (.fadr 1 2), g 9 7 true (.ld false 1 8),
  g 10 7 true (.iadr none 1 9 (k 0)), g 11 7 true (.ld false 1 10), g 12 7 true (.bin .eql 11 (.c (.int .u32 (1)))), o 13 (.pick 7 12 (.c (.bool false)))]
def r2 : List AI := [o 14 (.fadr 1 0), o 15 (.ld true 2 14), o 16 (.fadr 1 2), o 17 (.ld false 1 16), o 18 (.build [(.bool false), .nil, .nil] [(0, 2, 15), (2, 1, 17)]),
  o 19 (.build [(.bool false), .nil, .nil, (.bool false)] [(0, 3, 18), (3, 1, (.c (.bool true)))]), n (.st 4 2 19)]
def r3 : List AI := [o 20 (.fadr 1 2), o 21 (.ld false 1 20), o 22 (.call 67 [21, (.c .nil)]), o 23 (.bin .eql 22 (k 0))]
def r4 : List AI := [o 24 (.build [(.bool false), .nil] []), o 25 (.bslice 25 1 [(.c (.int .u32 (1)))]), o 26 (.build [(.bool false), .nil, .nil] [(0, 2, 24), (2, 1, 25)]),
  o 27 (.build [(.bool false), .nil, .nil, (.bool false)] [(0, 3, 26), (3, 1, (.c (.bool true)))]), n (.st 4 2 27)]
def r5 : List AI := [o 28 (.fadr 1 0), o 29 (.ld true 2 28), o 30 (.fadr 1 2), o 31 (.ld false 1 30), o 32 (.build [(.bool false), .nil, .nil] [(0, 2, 29), (2, 1, 31)]),
  o 33 (.build [(.bool false), .nil, .nil, (.bool false)] [(0, 3, 32), (3, 1, (.c (.bool false)))]), n (.st 4 2 33)]
def c : ACode := (.seq (.dr (.ops r0 false) [0] []) (.seq (.seq (.dr (.ops r1 false) [3,4,5,6,7,8,9,10,11,12] []) (.cond 13 (.seq (.dr (.ops r2 false) [1,13,14,15,16,17,18,19] []) .ret) .skip)) (.seq (.seq (.dr (.ops r3 false) [13,20,21,22] []) (.cond 23 (.seq (.dr (.ops r4 false) [1,23,24,25,26,27] []) .ret) .skip)) (.seq (.dr (.ops r5 false) [1,23,28,29,30,31,32,33] []) .ret))))
end rational_read
def rational_read : AFn := ⟨1, rational_read.c, [.cell 2 true 4], false⟩
namespace rational_isOne
def r0 : List AI := [o 2 (.mov (.c (.bool false)))]
def r1 : List AI := [m 3 0, o 4 (.len 3), o 5 (.bin .eql 4 (k 1)), m 6 5, g 7 6 true (.mov 0), g 8 6 true (.iadr none 1 7 (k 0)), g 9 6 true (.ld false 1 8),
  g 10 6 true (.bin .eql 9 (.c (.int .u32 (1)))), o 11 (.pick 6 10 (.c (.bool false))), m 2 11]
def c : ACode := (.seq (.dr (.ops r0 false) [2] []) (.seq (.dr (.ops r1 false) [0,3,4,5,6,7,8,9,10,11] []) .ret))
end rational_isOne
def rational_isOne : AFn := ⟨1, rational_isOne.c, [.tmp 2], false⟩
namespace rational_natural
def r0 : List AI := [o 2 (.alloc 2 [(.bool false), .nil])]
def r1 : List AI := [m 3 0, o 4 (.build [(.bool false), .nil] [(1, 1, 3)]), n (.st 2 2 4)]
def c : ACode := (.seq (.ops r0 false) (.seq (.dr (.ops r1 false) [0,3,4] []) .ret))
end rational_natural
def rational_natural : AFn := ⟨1, rational_natural.c, [.cell 2 true 2], false⟩
namespace rational_whole
def r0 : List AI := [o 1 (.box 92001 0), o 2 (.alloc 92002 [(.bool false), .nil, .nil])]
def r1 : List AI := [o 3 (.ld true 2 1), o 4 (.bslice 92004 1 [(.c (.int .u32 (1)))]), o 5 (.build [(.bool false), .nil, .nil] [(0, 2, 3), (2, 1, 4)]), n (.st 3 2 5)]
def c : ACode := (.seq (.dr (.ops r0 false) [0] []) (.seq (.dr (.ops r1 false) [1,3,4,5] []) .ret))
end rational_whole
def rational_whole : AFn := ⟨1, rational_whole.c, [.cell 2 true 3], false⟩
namespace rational_quotient
def r0 : List AI := [o 2 (.box 93002 0), o 3 (.box 93003 1), o 4 (.alloc 93004 [(.bool false), .nil, .nil])]
def r1 : List AI := [o 5 (.fadr 2 0), o 6 (.ld false 1 5), o 7 (.fadr 3 0), o 8 (.ld false 1 7), o 9 (.beq true 6 8), o 10 (.fadr 2 1), o 11 (.ld false 1 10),
  o 12 (.build [(.bool false), .nil] [(0, 1, 9), (1, 1, 11)]), o 13 (.fadr 3 1), o 14 (.ld false 1 13),
  o 15 (.build [(.bool false), .nil, .nil] [(0, 2, 12), (2, 1, 14)]), n (.st 3 4 15)]
def c : ACode := (.seq (.dr (.ops r0 false) [0,1] []) (.seq (.dr (.ops r1 false) [2,3,5,6,7,8,9,10,11,12,13,14,15] []) .ret))
end rational_quotient
def rational_quotient : AFn := ⟨2, rational_quotient.c, [.cell 4 true 3], false⟩
namespace rational_pair_lowest
def r0 : List AI := [o 1 (.box 1 0), o 2 (.alloc 2 [(.bool false), .nil, .nil])]
def r1 : List AI := [o 14 (.fadr 1 0), o 15 (.fadr 14 1), o 16 (.ld false 1 15), o 17 (.fadr 1 2), o 18 (.ld false 1 17), o 19 (.call 75 [16, 18]), m 13 19, o 20 (.ext 13 0),
  o 21 (.ext 13 1), o 22 (.ext 13 2), m 3 20, m 4 21, m 5 22]
def r2 : List AI := [m 23 4, o 24 (.len 23), o 25 (.bin .eql 24 (k 0))]
def r3 : List AI := [o 26 (.fadr 1 0), o 27 (.fadr 26 0), o 28 (.ld false 1 27), m 29 3, o 30 (.build [(.bool false), .nil] [(0, 1, 28), (1, 1, 29)]), o 31 (.call 84 [30]),
  o 32 (.calli 92 [31]), n (.st 3 2 32)]
def r4 : List AI := [o 33 (.fadr 1 2), o 34 (.ld false 1 33), m 35 4, o 36 (.call 82 [34, 35]), m 6 36]
def r5 : List AI := [m 37 6, o 38 (.call 90 [37])]
def r6 : List AI := [o 39 (.fadr 1 0), o 40 (.ld true 2 39), o 41 (.call 84 [40]), o 42 (.fadr 1 2), o 43 (.ld false 1 42), o 44 (.call 66 [43]),
  o 45 (.build [(.bool false), .nil, .nil] [(0, 2, 41), (2, 1, 44)]), n (.st 3 2 45)]
def r7 : List AI := [o 47 (.fadr 1 0), o 48 (.fadr 47 1), o 49 (.ld false 1 48), m 50 6, o 51 (.call 75 [49, 50]), m 46 51, o 52 (.ext 46 0), o 53 (.ext 46 1), o 54 (.ext 46 2),
  m 7 52, m 8 53, m 9 54]
def r8 : List AI := [o 56 (.fadr 1 2), o 57 (.ld false 1 56), m 58 6, o 59 (.call 75 [57, 58]), m 55 59, o 60 (.ext 55 0), o 61 (.ext 55 1), o 62 (.ext 55 2), m 10 60, m 11 61,
  m 12 62]
def r9 : List AI := [o 63 (.fadr 1 0), o 64 (.fadr 63 0), o 65 (.ld false 1 64), m 66 7, o 67 (.build [(.bool false), .nil] [(0, 1, 65), (1, 1, 66)]), m 68 10,
  o 69 (.build [(.bool false), .nil, .nil] [(0, 2, 67), (2, 1, 68)]), n (.st 3 2 69)]
def c : ACode := (.seq (.dr (.ops r0 false) [0] []) (.seq (.dr (.ops r1 false) [5,13,14,15,16,17,18,19,20,21,22] []) (.seq (.seq (.dr (.ops r2 false) [23,24] []) (.cond 25 (.seq (.dr (.ops r3 false) [1,3,4,25,26,27,28,29,30,31,32] []) .ret) .skip)) (.seq (.dr (.ops r4 false) [3,4,25,33,34,35,36] []) (.seq (.seq (.dr (.ops r5 false) [37] []) (.cond 38 (.seq (.dr (.ops r6 true) [1,6,38,39,40,41,42,43,44,45] []) .ret) .skip)) (.seq (.dr (.ops r7 false) [8,9,38,46,47,48,49,50,51,52,53,54] []) (.seq (.dr (.ops r8 false) [6,11,12,55,56,57,58,59,60,61,62] []) (.seq (.dr (.ops r9 false) [1,7,10,63,64,65,66,67,68,69] []) .ret))))))))
end rational_pair_lowest
def rational_pair_lowest : AFn := ⟨1, rational_pair_lowest.c, [.cell 2 true 3], false⟩
namespace rational_Trim
def r0 : List AI := [o 1 (.box 1 0), o 2 (.alloc 2 [(.bool false), .nil, .nil])]
def r1 : List AI := [o 3 (.ld true 3 1), o 4 (.callq 89 [3]), o 5 (.fld 4 0 3 true), o 6 (.call 94 [5]), n (.st 3 2 6)]
def c : ACode := (.seq (.dr (.ops r0 false) [0] []) (.seq (.dr (.ops r1 false) [1,3,4,5,6] []) .ret))
end rational_Trim
def rational_Trim : AFn := ⟨1, rational_Trim.c, [.cell 2 true 3], false⟩
namespace rational_Of
def r0 : List AI := [o 2 (.alloc 2 [(.bool false), .nil, .nil])]
def r1 : List AI := [m 3 0, o 4 (.call 85 [3]), o 5 (.calli 92 [4]), n (.st 3 2 5)]
def c : ACode := (.seq (.ops r0 false) (.seq (.dr (.ops r1 false) [0,3,4,5] []) .ret))
end rational_Of
def rational_Of : AFn := ⟨1, rational_Of.c, [.cell 2 true 3], false⟩
namespace rational_Sign
def r0 : List AI := [o 1 (.box 1 0), o 2 (.mov (k 0))]
def r1 : List AI := [o 3 (.ld true 3 1), o 4 (.callq 89 [3]), o 5 (.fld 4 0 3 true), o 6 (.fld 5 0 2 true), o 7 (.call 86 [6]), m 2 7]
def c : ACode := (.seq (.dr (.ops r0 false) [0,2] []) (.seq (.dr (.ops r1 false) [1,3,4,5,6,7] []) .ret))
end rational_Sign
def rational_Sign : AFn := ⟨1, rational_Sign.c, [.tmp 2], false⟩
namespace rational_Add
def r0 : List AI := [o 2 (.box 2 0), o 3 (.box 3 1), o 4 (.alloc 4 [(.bool false), .nil, .nil])]
def r1 : List AI := [⟨some 8, .ld true 3 2, none, [5,6]⟩, ⟨some 9, .callq 89 [8], none, [5,6]⟩, ⟨some 10, .ld true 3 3, none, [5,6]⟩, ⟨some 11, .callq 89 [10], none, [5,6]⟩,
  o 5 (.alloc 5 [(.bool false), .nil, .nil, (.bool false)]), o 6 (.alloc 6 [(.bool false), .nil, .nil, (.bool false)]), n (.st 4 5 9), n (.st 4 6 11)]
def r2 : List AI := [o 12 (.fadr 5 3), o 13 (.ld false 1 12), m 14 13, g 15 14 true (.fadr 6 3), g 16 14 true (.ld false 1 15), o 17 (.pick 14 16 (.c (.bool false)))]
def r3 : List AI := [o 18 (.fadr 5 0), o 19 (.fadr 18 0), o 20 (.ld true 2 19), o 21 (.fadr 6 0), o 22 (.fadr 21 0), o 23 (.ld true 2 22), o 24 (.call 87 [20, 23]),
  o 25 (.calli 92 [24]), n (.st 3 4 25)]
def r4 : List AI := [o 26 (.fadr 5 0), o 27 (.fadr 26 2), o 28 (.ld false 1 27), o 29 (.fadr 6 0), o 30 (.fadr 29 2), o 31 (.ld false 1 30), o 32 (.call 67 [28, 31]),
  o 33 (.bin .eql 32 (k 0))]
def r5 : List AI := [o 34 (.fadr 5 0), o 35 (.fadr 34 0), o 36 (.ld true 2 35), o 37 (.fadr 6 0), o 38 (.fadr 37 0), o 39 (.ld true 2 38), o 40 (.call 87 [36, 39]),
  o 41 (.fadr 5 0), o 42 (.fadr 41 2), o 43 (.ld false 1 42), o 44 (.build [(.bool false), .nil, .nil] [(0, 2, 40), (2, 1, 43)]), o 45 (.call 94 [44]),
  n (.st 3 4 45)]
def r6 : List AI := [o 46 (.fadr 5 0), o 47 (.fadr 46 0), ⟨some 48, .ld true 2 47, none, [7]⟩, o 49 (.fadr 6 0), o 50 (.fadr 49 2), ⟨some 51, .ld false 1 50, none, [7]⟩,
  ⟨some 52, .callq 91 [51], none, [7]⟩, ⟨some 53, .call 88 [48, 52], none, [7]⟩, o 54 (.fadr 6 0), o 55 (.fadr 54 0), ⟨some 56, .ld true 2 55, none, [7]⟩,
  o 57 (.fadr 5 0), o 58 (.fadr 57 2), ⟨some 59, .ld false 1 58, none, [7]⟩, ⟨some 60, .callq 91 [59], none, [7]⟩, ⟨some 61, .call 88 [56, 60], none, [7]⟩,
  ⟨some 62, .call 87 [53, 61], none, [7]⟩, o 7 (.alloc 7 [(.bool false), .nil]), n (.st 2 7 62)]
def r7 : List AI := [o 63 (.ld true 2 7), o 64 (.fadr 5 0), o 65 (.fadr 64 2), o 66 (.ld false 1 65), o 67 (.fadr 6 0), o 68 (.fadr 67 2), o 69 (.ld false 1 68),
  o 70 (.call 70 [66, 69]), o 71 (.build [(.bool false), .nil, .nil] [(0, 2, 63), (2, 1, 70)]), o 72 (.call 94 [71]), n (.st 3 4 72)]
def c : ACode := (.seq (.dr (.ops r0 false) [0,1] []) (.seq (.dr (.ops r1 true) [2,3,8,9,10,11] []) (.seq (.seq (.dr (.ops r2 false) [12,13,14,15,16] []) (.cond 17 (.seq (.dr (.ops r3 false) [5,6,17,18,19,20,21,22,23,24,25] []) .ret) .skip)) (.seq (.seq (.dr (.ops r4 false) [17,26,27,28,29,30,31,32] []) (.cond 33 (.seq (.dr (.ops r5 true) [5,6,33,34,35,36,37,38,39,40,41,42,43,44,45] []) .ret) .skip)) (.seq (.dr (.ops r6 true) [33,46,47,48,49,50,51,52,53,54,55,56,57,58,59,60,61,62] []) (.seq (.dr (.ops r7 true) [5,6,7,63,64,65,66,67,68,69,70,71,72] []) .ret))))))
end rational_Add
def rational_Add : AFn := ⟨2, rational_Add.c, [.cell 4 true 3], false⟩
namespace rational_Mul
def r0 : List AI := [o 2 (.box 2 0), o 3 (.box 3 1), o 4 (.alloc 4 [(.bool false), .nil, .nil])]
def r1 : List AI := [⟨some 8, .ld true 3 2, none, [5,6]⟩, ⟨some 9, .callq 89 [8], none, [5,6]⟩, ⟨some 10, .ld true 3 3, none, [5,6]⟩, ⟨some 11, .callq 89 [10], none, [5,6]⟩,
  o 5 (.alloc 5 [(.bool false), .nil, .nil, (.bool false)]), o 6 (.alloc 6 [(.bool false), .nil, .nil, (.bool false)]), n (.st 4 5 9), n (.st 4 6 11)]
def r2 : List AI := [o 12 (.fadr 5 0), o 13 (.fadr 12 0), o 14 (.ld true 2 13), o 15 (.fadr 6 0), o 16 (.fadr 15 0), o 17 (.ld true 2 16), o 18 (.call 88 [14, 17]),
  o 7 (.alloc 7 [(.bool false), .nil]), n (.st 2 7 18)]
def r3 : List AI := [o 19 (.fadr 5 3), o 20 (.ld false 1 19), m 21 20, g 22 21 true (.fadr 6 3), g 23 21 true (.ld false 1 22), o 24 (.pick 21 23 (.c (.bool false)))]
def r4 : List AI := [o 25 (.ld true 2 7), o 26 (.calli 92 [25]), n (.st 3 4 26)]
def r5 : List AI := [o 27 (.ld true 2 7), o 28 (.fadr 5 0), o 29 (.fadr 28 2), o 30 (.ld false 1 29), o 31 (.fadr 6 0), o 32 (.fadr 31 2), o 33 (.ld false 1 32),
  o 34 (.call 70 [30, 33]), o 35 (.build [(.bool false), .nil, .nil] [(0, 2, 27), (2, 1, 34)]), o 36 (.call 94 [35]), n (.st 3 4 36)]
def c : ACode := (.seq (.dr (.ops r0 false) [0,1] []) (.seq (.dr (.ops r1 true) [2,3,8,9,10,11] []) (.seq (.dr (.ops r2 false) [12,13,14,15,16,17,18] []) (.seq (.seq (.dr (.ops r3 false) [19,20,21,22,23] []) (.cond 24 (.seq (.dr (.ops r4 false) [5,6,7,24,25,26] []) .ret) .skip)) (.seq (.dr (.ops r5 true) [5,6,7,24,27,28,29,30,31,32,33,34,35,36] []) .ret)))))
end rational_Mul
def rational_Mul : AFn := ⟨2, rational_Mul.c, [.cell 4 true 3], false⟩
namespace rational_Div
def r0 : List AI := [o 2 (.box 2 0), o 3 (.box 3 1), o 4 (.alloc 4 [(.bool false), .nil, .nil]), o 5 (.mov (k 0))]
def r1 : List AI := [⟨some 10, .ld true 3 2, none, [6,7]⟩, ⟨some 11, .callq 89 [10], none, [6,7]⟩, ⟨some 12, .ld true 3 3, none, [6,7]⟩, ⟨some 13, .callq 89 [12], none, [6,7]⟩,
  o 6 (.alloc 6 [(.bool false), .nil, .nil, (.bool false)]), o 7 (.alloc 7 [(.bool false), .nil, .nil, (.bool false)]), n (.st 4 6 11), n (.st 4 7 13)]
def r2 : List AI := [o 14 (.fadr 7 0), o 15 (.fadr 14 0), o 16 (.ld true 2 15), o 17 (.call 86 [16]), o 18 (.bin .eql 17 (k 0))]
def r3 : List AI := [o 19 (.build [(.bool false), .nil, .nil] []), n (.st 3 4 19), o 5 (.mov (k 3))]
def r4 : List AI := [o 20 (.fadr 6 0), o 21 (.fadr 20 0), ⟨some 22, .ld true 2 21, none, [8]⟩, o 23 (.fadr 7 0), o 24 (.fadr 23 2), ⟨some 25, .ld false 1 24, none, [8]⟩,
  ⟨some 26, .callq 91 [25], none, [8]⟩, ⟨some 27, .call 88 [22, 26], none, [8]⟩, o 8 (.alloc 8 [(.bool false), .nil]), n (.st 2 8 27)]
def r5 : List AI := [o 28 (.fadr 6 0), o 29 (.fadr 28 2), ⟨some 30, .ld false 1 29, none, [9]⟩, ⟨some 31, .callq 91 [30], none, [9]⟩, o 32 (.fadr 7 0), o 33 (.fadr 32 0),
  ⟨some 34, .ld true 2 33, none, [9]⟩, ⟨some 35, .call 88 [31, 34], none, [9]⟩, o 9 (.alloc 9 [(.bool false), .nil]), n (.st 2 9 35)]
def r6 : List AI := [o 36 (.ld true 2 8), o 37 (.ld true 2 9), o 38 (.calli 93 [36, 37]), o 39 (.call 94 [38]), n (.st 3 4 39), o 5 (.mov (k 0))]
def c : ACode := (.seq (.dr (.ops r0 false) [0,1,5] []) (.seq (.dr (.ops r1 true) [2,3,10,11,12,13] []) (.seq (.seq (.dr (.ops r2 false) [14,15,16,17] []) (.cond 18 (.seq (.dr (.ops r3 false) [6,7,18,19] []) .ret) .skip)) (.seq (.dr (.ops r4 true) [18,20,21,22,23,24,25,26,27] []) (.seq (.dr (.ops r5 true) [6,7,28,29,30,31,32,33,34,35] []) (.seq (.dr (.ops r6 false) [8,9,36,37,38,39] []) .ret))))))
end rational_Div
def rational_Div : AFn := ⟨2, rational_Div.c, [.cell 4 true 3, .tmp 5], false⟩
/-- a library has these functions -/
structure RatGLib (L : Lib) : Prop extends NatGLib L where
  integer_signed : L 83 = some F.integer_signed
  integer_Trim : L 84 = some F.integer_Trim
  integer_Of : L 85 = some F.integer_Of
  integer_Sign : L 86 = some F.integer_Sign
  integer_Add : L 87 = some F.integer_Add
  integer_Mul : L 88 = some F.integer_Mul
  rational_read : L 89 = some F.rational_read
  rational_isOne : L 90 = some F.rational_isOne
  rational_natural : L 91 = some F.rational_natural
  rational_whole : L 92 = some F.rational_whole
  rational_quotient : L 93 = some F.rational_quotient
  rational_pair_lowest : L 94 = some F.rational_pair_lowest
  rational_Trim : L 95 = some F.rational_Trim
  rational_Of : L 96 = some F.rational_Of
  rational_Sign : L 97 = some F.rational_Sign
  rational_Add : L 98 = some F.rational_Add
  rational_Mul : L 99 = some F.rational_Mul
  rational_Div : L 100 = some F.rational_Div

end Go.Eng.F

/-
  Functions of the program, as the abstract machine reads them (group RefG). Written by a program (gen.py) off the model's own reading of the translation; the seat's check ties them to it.
-/
namespace Go.Eng.F
open C
namespace ref01_Trim
def r0 : List AI := [o 2 (.mov (.c .nil))]
def r1 : List AI := [m 4 0, o 5 (.len 4), m 3 5]
def r2 : List AI := [m 6 3, o 7 (.bin .gtr 6 (k 0)), m 8 7, g 9 8 true (.mov 0), g 10 8 true (.mov 3), g 11 8 true (.bin .sub 10 (k 1)), g 12 8 true (.iadr none 1 9 11),
  g 13 8 true (.ld false 1 12), g 14 8 true (.bin .eql 13 (.c (.int .u32 (0)))), o 15 (.pick 8 14 (.c (.bool false)))]
def r3 : List AI := [m 16 3, o 17 (.bin .sub 16 (k 1)), m 3 17]
def r4 : List AI := [m 18 0, m 19 3, o 20 (.slc 1 18 none (some 19)), o 21 (.app 101021 1 4 (.c .nil) 20), m 2 21]
def l1 : ACode := (.seq (.seq (.dr (.ops r2 false) [6,7,8,9,10,11,12,13,14] []) (.cond 15 .skip (.exit 0))) (.block 1 (.dr (.ops r3 false) [15,16,17] [])))
def c : ACode := (.seq (.dr (.ops r0 false) [2] []) (.seq (.dr (.ops r1 false) [4,5] []) (.seq (.block 0 (.loop l1)) (.seq (.dr (.ops r4 false) [0,3,15,18,19,20,21] []) .ret))))
end ref01_Trim
def ref01_Trim : AFn := ⟨1, ref01_Trim.c, [.tmp 2], false⟩
namespace ref01_Compare
def r0 : List AI := [o 4 (.mov (k 0))]
def r1 : List AI := [m 6 0, o 7 (.call 101 [6]), m 8 1, o 9 (.call 101 [8]), m 0 7, m 1 9]
def r2 : List AI := [m 10 0, o 11 (.len 10), m 12 1, o 13 (.len 12), o 14 (.bin .neq 11 13)]
def r3 : List AI := [m 15 0, o 16 (.len 15), m 17 1, o 18 (.len 17), o 19 (.bin .lss 16 18)]
def r4 : List AI := [o 4 (.mov (k (-1)))]
def r5 : List AI := [o 4 (.mov (k 1))]
def r6 : List AI := [m 20 0, o 21 (.len 20), o 22 (.bin .sub 21 (k 1)), m 5 22]
def r7 : List AI := [m 23 5, o 24 (.bin .geq 23 (k 0))]
def r9 : List AI := [m 27 0, m 28 5, o 29 (.iadr none 1 27 28), o 30 (.ld false 1 29), m 31 1, m 32 5, o 33 (.iadr none 1 31 32), o 34 (.ld false 1 33), o 35 (.bin .lss 30 34)]
def r10 : List AI := [o 4 (.mov (k (-1)))]
def r11 : List AI := [m 36 0, m 37 5, o 38 (.iadr none 1 36 37), o 39 (.ld false 1 38), m 40 1, m 41 5, o 42 (.iadr none 1 40 41), o 43 (.ld false 1 42), o 44 (.bin .gtr 39 43)]
def r12 : List AI := [o 4 (.mov (k 1))]
def r8 : List AI := [m 25 5, o 26 (.bin .sub 25 (k 1)), m 5 26]
def r13 : List AI := [o 4 (.mov (k 0))]
def l1 : ACode := (.seq (.seq (.dr (.ops r7 false) [23] []) (.cond 24 .skip (.exit 0))) (.seq (.block 1 (.seq (.seq (.dr (.ops r9 true) [24,27,28,29,30,31,32,33,34] []) (.cond 35 (.seq (.dr (.ops r10 false) [0,1,5,35] []) .ret) .skip)) (.seq (.dr (.ops r11 true) [35,36,37,38,39,40,41,42,43] []) (.cond 44 (.seq (.dr (.ops r12 false) [0,1,5,44] []) .ret) .skip)))) (.dr (.ops r8 false) [25,26,44] [])))
def c : ACode := (.seq (.dr (.ops r0 false) [4] []) (.seq (.dr (.ops r1 false) [6,7,8,9] []) (.seq (.seq (.dr (.ops r2 false) [10,11,12,13] []) (.cond 14 (.seq (.seq (.dr (.ops r3 false) [0,1,14,15,16,17,18] []) (.cond 19 (.seq (.dr (.ops r4 false) [19] []) .ret) .skip)) (.seq (.dr (.ops r5 false) [19] []) .ret)) .skip)) (.seq (.seq (.dr (.ops r6 false) [14,20,21,22] []) (.block 0 (.loop l1))) (.seq (.dr (.ops r13 false) [0,1,5,24] []) .ret)))))
end ref01_Compare
def ref01_Compare : AFn := ⟨2, ref01_Compare.c, [.tmp 4], false⟩
namespace ref01_Add
def r0 : List AI := [o 4 (.mov (.c .nil))]
def r1 : List AI := [o 5 (.vrow 5 1)]
def r2 : List AI := [o 6 (.mov (.c (.int .u64 (0))))]
def r3 : List AI := [o 7 (.mov (k 0))]
def r4 : List AI := [m 8 7, m 9 0, o 10 (.len 9), o 11 (.bin .lss 8 10), m 12 11, g 13 12 false (.mov 7), g 14 12 false (.mov 1), g 15 12 false (.len 14),
  g 16 12 false (.bin .lss 13 15), o 17 (.pick 12 (.c (.bool true)) 16)]
def r6 : List AI := [m 20 7, m 21 0, o 22 (.len 21), o 23 (.bin .lss 20 22)]
def r7 : List AI := [m 24 6, m 25 0, m 26 7, o 27 (.iadr none 1 25 26), o 28 (.ld false 1 27), o 29 (.conv .u64 28), o 30 (.bin .add 24 29), m 6 30]
def r8 : List AI := [m 31 7, m 32 1, o 33 (.len 32), o 34 (.bin .lss 31 33)]
def r9 : List AI := [m 35 6, m 36 1, m 37 7, o 38 (.iadr none 1 36 37), o 39 (.ld false 1 38), o 40 (.conv .u64 39), o 41 (.bin .add 35 40), m 6 41]
def r10 : List AI := [m 42 5, m 43 6, o 44 (.conv .u32 43), o 45 (.bslice 45 1 [44]), o 46 (.app 46 1 4 42 45), m 5 46]
def r11 : List AI := [m 47 6, o 48 (.bin .shr 47 (.c (.int .u64 (32)))), m 6 48]
def r5 : List AI := [m 18 7, o 19 (.bin .add 18 (k 1)), m 7 19]
def r12 : List AI := [m 49 5, m 50 6, o 51 (.conv .u32 50), o 52 (.bslice 52 1 [51]), o 53 (.app 53 1 4 49 52), o 54 (.call 101 [53]), m 4 54]
def l1 : ACode := (.seq (.seq (.dr (.ops r4 false) [8,9,10,11,12,13,14,15,16] []) (.cond 17 .skip (.exit 0))) (.seq (.block 1 (.seq (.seq (.dr (.ops r6 false) [17,20,21,22] []) (.cond 23 (.dr (.ops r7 false) [23,24,25,26,27,28,29,30] []) .skip)) (.seq (.seq (.dr (.ops r8 false) [23,31,32,33] []) (.cond 34 (.dr (.ops r9 false) [34,35,36,37,38,39,40,41] []) .skip)) (.seq (.dr (.ops r10 false) [34,42,43,44,45,46] []) (.dr (.ops r11 false) [47,48] []))))) (.dr (.ops r5 false) [18,19] [])))
def c : ACode := (.seq (.dr (.ops r0 false) [4] []) (.seq (.ops r1 false) (.seq (.ops r2 false) (.seq (.seq (.ops r3 false) (.block 0 (.loop l1))) (.seq (.dr (.ops r12 false) [0,1,5,6,7,17,49,50,51,52,53,54] []) .ret)))))
end ref01_Add
def ref01_Add : AFn := ⟨2, ref01_Add.c, [.tmp 4], false⟩
namespace ref01_Sub
def r0 : List AI := [o 4 (.mov (.c .nil))]
def r1 : List AI := [m 10 0, m 11 1, o 12 (.call 102 [10, 11]), o 13 (.bin .lss 12 (k 0))]
def r2 : List AI := [o 4 (.mov (.c .nil))]
def r3 : List AI := [m 14 1, o 15 (.call 101 [14]), m 1 15]
def r4 : List AI := [m 16 0, o 17 (.calli 101 [16]), m 5 17]
def r5 : List AI := [o 6 (.mov (.c (.int .u64 (0))))]
def r6 : List AI := [o 7 (.mov (k 0))]
def r7 : List AI := [m 18 7, m 19 5, o 20 (.len 19), o 21 (.bin .lss 18 20)]
def r9 : List AI := [m 24 6, m 8 24]
def r10 : List AI := [m 25 7, m 26 1, o 27 (.len 26), o 28 (.bin .lss 25 27)]
def r11 : List AI := [m 29 8, m 30 1, m 31 7, o 32 (.iadr none 1 30 31), o 33 (.ld false 1 32), o 34 (.conv .u64 33), o 35 (.bin .add 29 34), m 8 35]
def r12 : List AI := [m 36 5, m 37 7, o 38 (.iadr none 1 36 37), o 39 (.ld false 1 38), o 40 (.conv .u64 39), m 9 40]
def r13 : List AI := [o 6 (.mov (.c (.int .u64 (0))))]
def r14 : List AI := [m 41 9, m 42 8, o 43 (.bin .lss 41 42)]
def r15 : List AI := [m 44 9, o 45 (.bin .add 44 (.c (.int .u64 (4294967296)))), m 9 45]
def r16 : List AI := [o 6 (.mov (.c (.int .u64 (1))))]
def r17 : List AI := [m 46 5, m 47 7, m 48 9, m 49 8, o 50 (.bin .sub 48 49), o 51 (.conv .u32 50), o 52 (.iadr none 1 46 47), n (.st 1 52 51)]
def r8 : List AI := [m 22 7, o 23 (.bin .add 22 (k 1)), m 7 23]
def r18 : List AI := [m 53 5, o 54 (.call 101 [53]), m 4 54]
def l1 : ACode := (.seq (.seq (.dr (.ops r7 false) [18,19,20] []) (.cond 21 .skip (.exit 0))) (.seq (.block 1 (.seq (.dr (.ops r9 false) [6,21,24] []) (.seq (.seq (.dr (.ops r10 false) [25,26,27] []) (.cond 28 (.dr (.ops r11 false) [28,29,30,31,32,33,34,35] []) .skip)) (.seq (.dr (.ops r12 false) [28,36,37,38,39,40] []) (.seq (.ops r13 false) (.seq (.seq (.dr (.ops r14 false) [41,42] []) (.cond 43 (.seq (.dr (.ops r15 false) [6,43,44,45] []) (.ops r16 false)) .skip)) (.dr (.ops r17 false) [8,9,43,46,47,48,49,50,51,52] []))))))) (.dr (.ops r8 false) [22,23] [])))
def c : ACode := (.seq (.dr (.ops r0 false) [4] []) (.seq (.seq (.dr (.ops r1 false) [10,11,12] []) (.cond 13 (.seq (.dr (.ops r2 false) [0,1,13] []) .ret) .skip)) (.seq (.dr (.ops r3 false) [13,14,15] []) (.seq (.dr (.ops r4 false) [0,16,17] []) (.seq (.ops r5 false) (.seq (.seq (.ops r6 false) (.block 0 (.loop l1))) (.seq (.dr (.ops r18 false) [1,5,6,7,21,53,54] []) .ret)))))))
end ref01_Sub
def ref01_Sub : AFn := ⟨2, ref01_Sub.c, [.tmp 4], false⟩
namespace ref01_Mul
def r0 : List AI := [o 4 (.mov (.c .nil))]
def r1 : List AI := [m 9 0, o 10 (.len 9), m 11 1, o 12 (.len 11), o 13 (.bin .add 10 12), o 14 (.bin .add 13 (k 1)), o 15 (.mk 15 1 4 [(.int .u32 (0))] 14 14), m 5 15]
def r2 : List AI := [o 6 (.mov (k 0))]
def r3 : List AI := [m 16 6, m 17 0, o 18 (.len 17), o 19 (.bin .lss 16 18)]
def r5 : List AI := [o 7 (.mov (.c (.int .u64 (0))))]
def r6 : List AI := [o 8 (.mov (k 0))]
def r7 : List AI := [m 22 8, m 23 1, o 24 (.len 23), o 25 (.bin .lss 22 24)]
def r9 : List AI := [m 28 7, m 29 0, m 30 6, o 31 (.iadr none 1 29 30), o 32 (.ld false 1 31), o 33 (.conv .u64 32), m 34 1, m 35 8, o 36 (.iadr none 1 34 35),
  o 37 (.ld false 1 36), o 38 (.conv .u64 37), o 39 (.bin .mul 33 38), m 40 5, m 41 6, m 42 8, o 43 (.bin .add 41 42), o 44 (.iadr none 1 40 43),
  o 45 (.ld false 1 44), o 46 (.conv .u64 45), o 47 (.bin .add 39 46), o 48 (.bin .add 28 47), m 7 48]
def r10 : List AI := [m 49 5, m 50 6, m 51 8, o 52 (.bin .add 50 51), m 53 7, o 54 (.conv .u32 53), o 55 (.iadr none 1 49 52), n (.st 1 55 54)]
def r11 : List AI := [m 56 7, o 57 (.bin .shr 56 (.c (.int .u64 (32)))), m 7 57]
def r8 : List AI := [m 26 8, o 27 (.bin .add 26 (k 1)), m 8 27]
def r12 : List AI := [m 58 5, m 59 6, m 60 1, o 61 (.len 60), o 62 (.bin .add 59 61), m 63 7, o 64 (.conv .u32 63), o 65 (.iadr none 1 58 62), n (.st 1 65 64)]
def r4 : List AI := [m 20 6, o 21 (.bin .add 20 (k 1)), m 6 21]
def r13 : List AI := [m 66 5, o 67 (.call 101 [66]), m 4 67]
def l2 : ACode := (.seq (.seq (.dr (.ops r7 false) [22,23,24] []) (.cond 25 .skip (.exit 2))) (.seq (.block 3 (.seq (.dr (.ops r9 true) [25,28,29,30,31,32,33,34,35,36,37,38,39,40,41,42,43,44,45,46,47,48] []) (.seq (.dr (.ops r10 false) [49,50,51,52,53,54,55] []) (.dr (.ops r11 false) [56,57] [])))) (.dr (.ops r8 false) [26,27] [])))
def l1 : ACode := (.seq (.seq (.dr (.ops r3 false) [16,17,18] []) (.cond 19 .skip (.exit 0))) (.seq (.block 1 (.seq (.dr (.ops r5 false) [19] []) (.seq (.seq (.ops r6 false) (.block 2 (.loop l2))) (.dr (.ops r12 false) [7,8,25,58,59,60,61,62,63,64,65] [])))) (.dr (.ops r4 false) [20,21] [])))
def c : ACode := (.seq (.dr (.ops r0 false) [4] []) (.seq (.dr (.ops r1 false) [9,10,11,12,13,14,15] []) (.seq (.seq (.ops r2 false) (.block 0 (.loop l1))) (.seq (.dr (.ops r13 false) [0,1,5,6,19,66,67] []) .ret))))
end ref01_Mul
def ref01_Mul : AFn := ⟨2, ref01_Mul.c, [.tmp 4], false⟩
namespace ref02_Trim
def r0 : List AI := [o 1 (.box 1 0), o 2 (.alloc 2 [(.bool false), .nil])]
def r1 : List AI := [o 4 (.fadr 1 1), o 5 (.ld false 1 4), o 6 (.call 101 [5]), m 3 6]
def r2 : List AI := [o 7 (.fadr 1 0), o 8 (.ld false 1 7), m 9 8, g 10 9 true (.mov 3), g 11 9 true (.len 10), g 12 9 true (.bin .gtr 11 (k 0)),
  o 13 (.pick 9 12 (.c (.bool false))), m 14 3, o 15 (.build [(.bool false), .nil] [(0, 1, 13), (1, 1, 14)]), n (.st 2 2 15)]
def c : ACode := (.seq (.dr (.ops r0 false) [0] []) (.seq (.dr (.ops r1 false) [4,5,6] []) (.seq (.dr (.ops r2 false) [1,3,7,8,9,10,11,12,13,14,15] []) .ret)))
end ref02_Trim
def ref02_Trim : AFn := ⟨1, ref02_Trim.c, [.cell 2 true 2], false⟩
namespace ref02_Of
def r0 : List AI := [o 2 (.alloc 2 [(.bool false), .nil])]
def r1 : List AI := [m 4 0, o 5 (.bin .lss 4 (k 0))]
def r2 : List AI := [m 6 0, o 7 (.bin .add 6 (k 1)), o 8 (.un .neg 7), o 9 (.conv .u64 8), o 10 (.bin .add 9 (.c (.int .u64 (1)))), m 3 10]
def r3 : List AI := [m 11 3, o 12 (.conv .u32 11), m 13 3, o 14 (.bin .shr 13 (.c (.int .u64 (32)))), o 15 (.conv .u32 14), o 16 (.bslice 16 1 [12, 15]),
  o 17 (.build [(.bool false), .nil] [(0, 1, (.c (.bool true))), (1, 1, 16)]), o 18 (.call 111 [17]), n (.st 2 2 18)]
def r4 : List AI := [m 19 0, o 20 (.conv .u32 19), m 21 0, o 22 (.conv .u64 21), o 23 (.bin .shr 22 (.c (.int .u64 (32)))), o 24 (.conv .u32 23), o 25 (.bslice 25 1 [20, 24]),
  o 26 (.build [(.bool false), .nil] [(1, 1, 25)]), o 27 (.call 111 [26]), n (.st 2 2 27)]
def c : ACode := (.seq (.ops r0 false) (.seq (.seq (.dr (.ops r1 false) [4] []) (.cond 5 (.seq (.dr (.ops r2 false) [0,5,6,7,8,9,10] []) (.seq (.dr (.ops r3 false) [3,11,12,13,14,15,16,17,18] []) .ret)) .skip)) (.seq (.dr (.ops r4 false) [0,5,19,20,21,22,23,24,25,26,27] []) .ret)))
end ref02_Of
def ref02_Of : AFn := ⟨1, ref02_Of.c, [.cell 2 true 2], false⟩
namespace ref02_Sign
def r0 : List AI := [o 1 (.box 1 0), o 2 (.mov (k 0))]
def r1 : List AI := [o 3 (.ld true 2 1), o 4 (.call 111 [3]), n (.st 2 1 4)]
def r2 : List AI := [o 6 (.fadr 1 1), o 7 (.ld false 1 6), o 8 (.len 7), o 9 (.bin .eql 8 (k 0)), m 5 9]
def r3 : List AI := [o 2 (.mov (k 0))]
def r4 : List AI := [o 11 (.fadr 1 0), o 12 (.ld false 1 11), m 10 12]
def r5 : List AI := [o 2 (.mov (k (-1)))]
def r6 : List AI := [o 2 (.mov (k 1))]
def c : ACode := (.seq (.dr (.ops r0 false) [0,2] []) (.seq (.dr (.ops r1 false) [3,4] []) (.seq (.block 0 (.seq (.dr (.ops r2 false) [6,7,8,9] []) (.cond 5 (.seq (.dr (.ops r3 false) [1,5] []) .ret) (.seq (.dr (.ops r4 false) [1,5,11,12] []) (.cond 10 (.seq (.dr (.ops r5 false) [10] []) .ret) .skip))))) (.seq (.dr (.ops r6 false) [10] []) .ret))))
end ref02_Sign
def ref02_Sign : AFn := ⟨1, ref02_Sign.c, [.tmp 2], false⟩
namespace ref02_Neg
def r0 : List AI := [o 1 (.box 1 0), o 2 (.alloc 2 [(.bool false), .nil])]
def r1 : List AI := [o 3 (.ld true 2 1), o 4 (.call 111 [3]), n (.st 2 1 4)]
def r2 : List AI := [o 5 (.fadr 1 0), o 6 (.ld false 1 5), o 7 (.un .not 6), m 8 7, g 9 8 true (.fadr 1 1), g 10 8 true (.ld false 1 9), g 11 8 true (.len 10),
  g 12 8 true (.bin .gtr 11 (k 0)), o 13 (.pick 8 12 (.c (.bool false))), o 14 (.fadr 1 0), n (.st 1 14 13)]
def r3 : List AI := [o 15 (.ld true 2 1), n (.st 2 2 15)]
def c : ACode := (.seq (.dr (.ops r0 false) [0] []) (.seq (.dr (.ops r1 false) [3,4] []) (.seq (.dr (.ops r2 false) [5,6,7,8,9,10,11,12,13,14] []) (.seq (.dr (.ops r3 false) [1,15] []) .ret))))
end ref02_Neg
def ref02_Neg : AFn := ⟨1, ref02_Neg.c, [.cell 2 true 2], false⟩
namespace ref02_Add
def r0 : List AI := [o 2 (.box 2 0), o 3 (.box 3 1), o 4 (.alloc 4 [(.bool false), .nil])]
def r1 : List AI := [o 5 (.ld true 2 2), o 6 (.call 111 [5]), o 7 (.ld true 2 3), o 8 (.call 111 [7]), n (.st 2 2 6), n (.st 2 3 8)]
def r2 : List AI := [o 9 (.fadr 2 0), o 10 (.ld false 1 9), o 11 (.fadr 3 0), o 12 (.ld false 1 11), o 13 (.beq false 10 12)]
def r3 : List AI := [o 14 (.fadr 2 0), o 15 (.ld false 1 14), o 16 (.fadr 2 1), o 17 (.ld false 1 16), o 18 (.fadr 3 1), o 19 (.ld false 1 18), o 20 (.call 103 [17, 19]),
  o 21 (.build [(.bool false), .nil] [(0, 1, 15), (1, 1, 20)]), o 22 (.call 111 [21]), n (.st 2 4 22)]
def r4 : List AI := [o 23 (.fadr 2 1), o 24 (.ld false 1 23), o 25 (.fadr 3 1), o 26 (.ld false 1 25), o 27 (.call 102 [24, 26]), o 28 (.bin .geq 27 (k 0))]
def r5 : List AI := [o 29 (.fadr 2 0), o 30 (.ld false 1 29), o 31 (.fadr 2 1), o 32 (.ld false 1 31), o 33 (.fadr 3 1), o 34 (.ld false 1 33), o 35 (.call 104 [32, 34]),
  o 36 (.build [(.bool false), .nil] [(0, 1, 30), (1, 1, 35)]), o 37 (.call 111 [36]), n (.st 2 4 37)]
def r6 : List AI := [o 38 (.fadr 3 0), o 39 (.ld false 1 38), o 40 (.fadr 3 1), o 41 (.ld false 1 40), o 42 (.fadr 2 1), o 43 (.ld false 1 42), o 44 (.call 104 [41, 43]),
  o 45 (.build [(.bool false), .nil] [(0, 1, 39), (1, 1, 44)]), o 46 (.call 111 [45]), n (.st 2 4 46)]
def c : ACode := (.seq (.dr (.ops r0 false) [0,1] []) (.seq (.dr (.ops r1 true) [5,6,7,8] []) (.seq (.seq (.dr (.ops r2 false) [9,10,11,12] []) (.cond 13 (.seq (.dr (.ops r3 true) [2,3,13,14,15,16,17,18,19,20,21,22] []) .ret) .skip)) (.seq (.seq (.dr (.ops r4 false) [13,23,24,25,26,27] []) (.cond 28 (.seq (.dr (.ops r5 true) [2,3,28,29,30,31,32,33,34,35,36,37] []) .ret) .skip)) (.seq (.dr (.ops r6 true) [2,3,28,38,39,40,41,42,43,44,45,46] []) .ret)))))
end ref02_Add
def ref02_Add : AFn := ⟨2, ref02_Add.c, [.cell 4 true 2], false⟩
namespace ref02_Sub
def r0 : List AI := [o 2 (.box 2 0), o 3 (.box 3 1), o 4 (.alloc 4 [(.bool false), .nil])]
def r1 : List AI := [o 5 (.ld true 2 2), o 6 (.ld true 2 3), o 7 (.call 114 [6]), o 8 (.call 115 [5, 7]), n (.st 2 4 8)]
def c : ACode := (.seq (.dr (.ops r0 false) [0,1] []) (.seq (.dr (.ops r1 true) [2,3,5,6,7,8] []) .ret))
end ref02_Sub
def ref02_Sub : AFn := ⟨2, ref02_Sub.c, [.cell 4 true 2], false⟩
namespace ref02_Compare
def r0 : List AI := [o 2 (.box 2 0), o 3 (.box 3 1), o 4 (.mov (k 0))]
def r1 : List AI := [o 5 (.ld true 2 2), o 6 (.ld true 2 3), o 7 (.call 116 [5, 6]), o 8 (.call 113 [7]), m 4 8]
def c : ACode := (.seq (.dr (.ops r0 false) [0,1,4] []) (.seq (.dr (.ops r1 false) [2,3,5,6,7,8] []) .ret))
end ref02_Compare
def ref02_Compare : AFn := ⟨2, ref02_Compare.c, [.tmp 4], false⟩
namespace ref02_Mul
def r0 : List AI := [o 2 (.box 2 0), o 3 (.box 3 1), o 4 (.alloc 4 [(.bool false), .nil])]
def r1 : List AI := [o 5 (.fadr 2 0), o 6 (.ld false 1 5), o 7 (.fadr 3 0), o 8 (.ld false 1 7), o 9 (.beq true 6 8), o 10 (.fadr 2 1), o 11 (.ld false 1 10), o 12 (.fadr 3 1),
  o 13 (.ld false 1 12), o 14 (.call 105 [11, 13]), o 15 (.build [(.bool false), .nil] [(0, 1, 9), (1, 1, 14)]), o 16 (.call 111 [15]), n (.st 2 4 16)]
def c : ACode := (.seq (.dr (.ops r0 false) [0,1] []) (.seq (.dr (.ops r1 true) [2,3,5,6,7,8,9,10,11,12,13,14,15,16] []) .ret))
end ref02_Mul
def ref02_Mul : AFn := ⟨2, ref02_Mul.c, [.cell 4 true 2], false⟩
namespace ref03_parts
def r0 : List AI := [o 1 (.box 1 0), o 2 (.alloc 2 [(.bool false), .nil]), o 3 (.alloc 3 [(.bool false), .nil])]
def r1 : List AI := [o 5 (.fadr 1 2), o 6 (.ld false 1 5), o 7 (.call 101 [6]), o 8 (.build [(.bool false), .nil] [(1, 1, 7)]), o 4 (.alloc 4 [(.bool false), .nil]), n (.st 2 4 8)]
def r2 : List AI := [o 9 (.fadr 4 1), o 10 (.ld false 1 9), o 11 (.len 10), o 12 (.bin .eql 11 (k 0))]
def r3 : List AI := [o 13 (.build [(.bool false), .nil] []), o 14 (.bslice 14 1 [(.c (.int .u32 (1)))]), o 15 (.build [(.bool false), .nil] [(1, 1, 14)]), n (.st 2 2 13),
  n (.st 2 3 15)]
def r4 : List AI := [o 16 (.fadr 1 0), o 17 (.ld true 2 16), ⟨some 18, .ld true 2 4, none, [2]⟩, n (.sto 2 2 2 17), n (.st 2 3 18)]
def c : ACode := (.seq (.dr (.ops r0 false) [0] []) (.seq (.dr (.ops r1 false) [5,6,7,8] []) (.seq (.seq (.dr (.ops r2 false) [9,10,11] []) (.cond 12 (.seq (.dr (.ops r3 false) [1,4,12,13,14,15] []) .ret) .skip)) (.seq (.dr (.ops r4 true) [1,4,12,16,17,18] []) .ret))))
end ref03_parts
def ref03_parts : AFn := ⟨1, ref03_parts.c, [.cell 2 true 2, .cell 3 true 2], false⟩
namespace ref03_Of
def r0 : List AI := [o 2 (.alloc 2 [(.bool false), .nil, .nil])]
def r1 : List AI := [m 3 0, o 4 (.call 112 [3]), o 5 (.bslice 5 1 [(.c (.int .u32 (1)))]), o 6 (.build [(.bool false), .nil, .nil] [(0, 2, 4), (2, 1, 5)]), n (.st 3 2 6)]
def c : ACode := (.seq (.ops r0 false) (.seq (.dr (.ops r1 false) [0,3,4,5,6] []) .ret))
end ref03_Of
def ref03_Of : AFn := ⟨1, ref03_Of.c, [.cell 2 true 3], false⟩
namespace ref03_Compare
def r0 : List AI := [o 2 (.box 2 0), o 3 (.box 3 1), o 4 (.mov (k 0))]
def r1 : List AI := [o 10 (.ld true 3 2), o 11 (.call 122 [10]), m 9 11, o 12 (.ext 9 0), o 13 (.ext 9 1), o 5 (.alloc 5 [(.bool false), .nil]),
  o 6 (.alloc 6 [(.bool false), .nil]), n (.st 2 5 12), n (.st 2 6 13)]
def r2 : List AI := [o 15 (.ld true 3 3), o 16 (.call 122 [15]), m 14 16, o 17 (.ext 14 0), o 18 (.ext 14 1), o 7 (.alloc 7 [(.bool false), .nil]),
  o 8 (.alloc 8 [(.bool false), .nil]), n (.st 2 7 17), n (.st 2 8 18)]
def r3 : List AI := [o 19 (.ld true 2 5), o 20 (.ld true 2 8), o 21 (.call 118 [19, 20]), o 22 (.ld true 2 7), o 23 (.ld true 2 6), o 24 (.call 118 [22, 23]),
  o 25 (.call 117 [21, 24]), m 4 25]
def c : ACode := (.seq (.dr (.ops r0 false) [0,1,4] []) (.seq (.dr (.ops r1 false) [2,9,10,11,12,13] []) (.seq (.dr (.ops r2 false) [3,14,15,16,17,18] []) (.seq (.dr (.ops r3 true) [5,6,7,8,19,20,21,22,23,24,25] []) .ret))))
end ref03_Compare
def ref03_Compare : AFn := ⟨2, ref03_Compare.c, [.tmp 4], false⟩
namespace ref21_SameRats
def r0 : List AI := [o 4 (.mov (.c (.bool false)))]
def r1 : List AI := [m 6 0, o 7 (.len 6), m 8 1, o 9 (.len 8), o 10 (.bin .neq 7 9)]
def r2 : List AI := [o 4 (.mov (.c (.bool false)))]
def r3 : List AI := [o 5 (.mov (k 0))]
def r4 : List AI := [m 11 5, m 12 0, o 13 (.len 12), o 14 (.bin .lss 11 13)]
def r6 : List AI := [m 17 0, m 18 5, o 19 (.iadr none 3 17 18), o 20 (.ld true 3 19), m 21 1, m 22 5, o 23 (.iadr none 3 21 22), o 24 (.ld true 3 23), o 25 (.call 127 [20, 24]),
  o 26 (.bin .neq 25 (k 0))]
def r7 : List AI := [o 4 (.mov (.c (.bool false)))]
def r5 : List AI := [m 15 5, o 16 (.bin .add 15 (k 1)), m 5 16]
def r8 : List AI := [o 4 (.mov (.c (.bool true)))]
def l1 : ACode := (.seq (.seq (.dr (.ops r4 false) [11,12,13] []) (.cond 14 .skip (.exit 0))) (.seq (.block 1 (.seq (.dr (.ops r6 true) [14,17,18,19,20,21,22,23,24,25] []) (.cond 26 (.seq (.dr (.ops r7 false) [0,1,5,26] []) .ret) .skip))) (.dr (.ops r5 false) [15,16,26] [])))
def c : ACode := (.seq (.dr (.ops r0 false) [4] []) (.seq (.seq (.dr (.ops r1 false) [6,7,8,9] []) (.cond 10 (.seq (.dr (.ops r2 false) [0,1,10] []) .ret) .skip)) (.seq (.seq (.dr (.ops r3 false) [10] []) (.block 0 (.loop l1))) (.seq (.dr (.ops r8 false) [0,1,5,14] []) .ret))))
end ref21_SameRats
def ref21_SameRats : AFn := ⟨2, ref21_SameRats.c, [.tmp 4], false⟩
/-- a library has these functions -/
structure RefGLib (L : Lib) : Prop where
  ref01_Trim : L 101 = some F.ref01_Trim
  ref01_Compare : L 102 = some F.ref01_Compare
  ref01_Add : L 103 = some F.ref01_Add
  ref01_Sub : L 104 = some F.ref01_Sub
  ref01_Mul : L 105 = some F.ref01_Mul
  ref02_Trim : L 111 = some F.ref02_Trim
  ref02_Of : L 112 = some F.ref02_Of
  ref02_Sign : L 113 = some F.ref02_Sign
  ref02_Neg : L 114 = some F.ref02_Neg
  ref02_Add : L 115 = some F.ref02_Add
  ref02_Sub : L 116 = some F.ref02_Sub
  ref02_Compare : L 117 = some F.ref02_Compare
  ref02_Mul : L 118 = some F.ref02_Mul
  ref03_parts : L 122 = some F.ref03_parts
  ref03_Of : L 124 = some F.ref03_Of
  ref03_Compare : L 127 = some F.ref03_Compare
  ref21_SameRats : L 129 = some F.ref21_SameRats

end Go.Eng.F


/-
  Functions of the program, as the abstract machine reads them (group SysG). Written by a program (gen.py) off the model's own reading of the translation; the seat's check ties them to it.
-/
namespace Go.Eng.F
open C
namespace network_Sound
def r0 : List AI := [o 1 (.box 1 0), o 2 (.mov (.c (.bool false)))]
def r1 : List AI := [o 6 (.fadr 1 0), o 7 (.ld false 1 6), o 8 (.len 7), m 3 8]
def r2 : List AI := [m 9 3, o 10 (.bin .gtr 9 (k 64)), m 11 10, g 12 11 false (.fadr 1 1), g 13 11 false (.ld false 1 12), g 14 11 false (.len 13), g 15 11 false (.mov 3),
  g 16 11 false (.bin .neq 14 15), o 17 (.pick 11 (.c (.bool true)) 16), m 18 17, g 19 18 false (.fadr 1 2), g 20 18 false (.ld false 1 19),
  g 21 18 false (.len 20), g 22 18 false (.mov 3), g 23 18 false (.bin .neq 21 22), o 24 (.pick 18 (.c (.bool true)) 23)]
def r3 : List AI := [o 2 (.mov (.c (.bool false)))]
def r4 : List AI := [o 25 (.fadr 1 0), o 26 (.ld false 1 25), o 27 (.len 26), o 28 (.mov (k 0))]
def r5 : List AI := [o 29 (.bin .lss 28 27)]
def r6 : List AI := [o 30 (.iadr none 1 26 28), o 31 (.ld false 1 30), m 5 31]
def r7 : List AI := [m 32 5, o 33 (.len 32), m 34 3, o 35 (.bin .neq 33 34)]
def r8 : List AI := [o 2 (.mov (.c (.bool false)))]
def r9 : List AI := [o 36 (.bin .add 28 (k 1)), m 28 36]
def r10 : List AI := [o 2 (.mov (.c (.bool true)))]
def l1 : ACode := (.seq (.ops r5 false) (.seq (.cond 29 .skip (.exit 0)) (.seq (.block 1 (.seq (.dr (.ops r6 false) [29,30,31] []) (.seq (.dr (.ops r7 false) [5,32,33,34] []) (.cond 35 (.seq (.dr (.ops r8 false) [3,26,27,28,35] []) .ret) .skip)))) (.dr (.ops r9 false) [35,36] []))))
def c : ACode := (.seq (.dr (.ops r0 false) [0,2] []) (.seq (.dr (.ops r1 false) [6,7,8] []) (.seq (.seq (.dr (.ops r2 false) [9,10,11,12,13,14,15,16,17,18,19,20,21,22,23] []) (.cond 24 (.seq (.dr (.ops r3 false) [1,3,24] []) .ret) .skip)) (.seq (.seq (.dr (.ops r4 false) [1,24,25] []) (.block 0 (.loop l1))) (.seq (.dr (.ops r10 false) [3,26,27,28,29] []) .ret)))))
end network_Sound
def network_Sound : AFn := ⟨1, network_Sound.c, [.tmp 2], false⟩
namespace network_zeros
def r0 : List AI := [o 2 (.mov (.c .nil))]
def r1 : List AI := [m 5 0, o 6 (.mk 131006 3 56 [(.bool false), .nil, .nil] 5 5), m 3 6]
def r2 : List AI := [m 7 3, o 8 (.len 7), o 9 (.mov (k 0))]
def r3 : List AI := [o 10 (.bin .lss 9 8)]
def r4 : List AI := [m 11 9, m 4 11]
def r5 : List AI := [m 12 3, m 13 4, o 14 (.call 96 [(k 0)]), o 15 (.iadr none 3 12 13), n (.st 3 15 14)]
def r6 : List AI := [o 16 (.bin .add 9 (k 1)), m 9 16]
def r7 : List AI := [m 17 3, m 2 17]
def l1 : ACode := (.seq (.ops r3 false) (.seq (.cond 10 .skip (.exit 0)) (.seq (.block 1 (.seq (.dr (.ops r4 false) [10,11] []) (.dr (.ops r5 false) [4,12,13,14,15] []))) (.dr (.ops r6 false) [16] []))))
def c : ACode := (.seq (.dr (.ops r0 false) [2] []) (.seq (.dr (.ops r1 false) [0,5,6] []) (.seq (.seq (.dr (.ops r2 false) [7] []) (.block 0 (.loop l1))) (.seq (.dr (.ops r7 false) [3,8,9,10,17] []) .ret))))
end network_zeros
def network_zeros : AFn := ⟨1, network_zeros.c, [.tmp 2], false⟩
namespace network_product
def r0 : List AI := [o 4 (.alloc 4 [(.bool false), .nil, .nil])]
def r1 : List AI := [o 8 (.call 96 [(k 0)]), o 5 (.alloc 5 [(.bool false), .nil, .nil]), n (.st 3 5 8)]
def r2 : List AI := [m 9 0, o 10 (.len 9), o 11 (.mov (k 0))]
def r3 : List AI := [o 12 (.bin .lss 11 10)]
def r4 : List AI := [m 13 11, o 14 (.iadr none 3 9 11), o 15 (.ld true 3 14), o 7 (.alloc 7 [(.bool false), .nil, .nil]), m 6 13, n (.st 3 7 15)]
def r5 : List AI := [o 16 (.ld true 3 7), o 17 (.call 97 [16]), o 18 (.bin .neq 17 (k 0)), m 19 18, g 20 19 true (.mov 1), g 21 19 true (.mov 6), g 22 19 true (.iadr none 3 20 21),
  g 23 19 true (.ld true 3 22), g 24 19 true (.call 97 [23]), g 25 19 true (.bin .neq 24 (k 0)), o 26 (.pick 19 25 (.c (.bool false)))]
def r6 : List AI := [o 27 (.ld true 3 5), o 28 (.ld true 3 7), m 29 1, m 30 6, o 31 (.iadr none 3 29 30), o 32 (.ld true 3 31), o 33 (.call 99 [28, 32]), o 34 (.call 98 [27, 33]),
  n (.st 3 5 34)]
def r7 : List AI := [o 35 (.bin .add 11 (k 1)), m 11 35]
def r8 : List AI := [o 36 (.ld true 3 5), n (.st 3 4 36)]
def l1 : ACode := (.seq (.ops r3 false) (.seq (.cond 12 .skip (.exit 0)) (.seq (.block 1 (.seq (.dr (.ops r4 false) [12,13,14,15] []) (.seq (.dr (.ops r5 false) [16,17,18,19,20,21,22,23,24,25] []) (.cond 26 (.dr (.ops r6 true) [6,7,26,27,28,29,30,31,32,33,34] []) .skip)))) (.dr (.ops r7 false) [6,7,26,35] []))))
def c : ACode := (.seq (.ops r0 false) (.seq (.dr (.ops r1 false) [8] []) (.seq (.seq (.dr (.ops r2 false) [0] []) (.block 0 (.loop l1))) (.seq (.dr (.ops r8 false) [1,5,9,10,11,12,36] []) .ret))))
end network_product
def network_product : AFn := ⟨2, network_product.c, [.cell 4 true 3], false⟩
namespace network_Respond
def r0 : List AI := [o 3 (.box 3 0), o 6 (.mov (.c .nil)), o 7 (.mov (.c .nil)), o 8 (.mov (k 0))]
def r1 : List AI := [o 18 (.ld true 6 3), o 19 (.call 130 [18]), o 20 (.un .not 19)]
def r2 : List AI := [o 6 (.mov (.c .nil)), o 7 (.mov (.c .nil)), o 8 (.mov (k 2))]
def r3 : List AI := [m 21 1, o 22 (.len 21), o 23 (.fadr 3 0), o 24 (.ld false 1 23), o 25 (.len 24), o 26 (.bin .neq 22 25)]
def r4 : List AI := [o 6 (.mov (.c .nil)), o 7 (.mov (.c .nil)), o 8 (.mov (k 1))]
def r5 : List AI := [m 27 2, o 28 (.len 27), o 29 (.bin .gtr 28 (k 4096))]
def r6 : List AI := [o 6 (.mov (.c .nil)), o 7 (.mov (.c .nil)), o 8 (.mov (k 4))]
def r7 : List AI := [m 30 1, o 31 (.len 30), o 32 (.mk 32 3 56 [(.bool false), .nil, .nil] 31 31), m 9 32]
def r8 : List AI := [m 33 1, o 34 (.len 33), o 35 (.mov (k 0))]
def r9 : List AI := [o 36 (.bin .lss 35 34)]
def r10 : List AI := [m 37 35, o 38 (.iadr none 3 33 35), o 39 (.ld true 3 38), o 11 (.alloc 11 [(.bool false), .nil, .nil]), m 10 37, n (.st 3 11 39)]
def r11 : List AI := [m 40 9, m 41 10, o 42 (.ld true 3 11), o 43 (.call 95 [42]), o 44 (.iadr none 3 40 41), n (.st 3 44 43)]
def r12 : List AI := [o 45 (.bin .add 35 (k 1)), m 35 45]
def r13 : List AI := [m 46 2, o 47 (.len 46), o 48 (.mk 48 3 56 [(.bool false), .nil, .nil] (k 0) 47), m 12 48]
def r14 : List AI := [m 49 2, o 50 (.len 49), o 51 (.mov (k 0))]
def r15 : List AI := [o 52 (.bin .lss 51 50)]
def r16 : List AI := [o 53 (.iadr none 3 49 51), o 54 (.ld true 3 53), o 14 (.alloc 14 [(.bool false), .nil, .nil]), n (.st 3 14 54)]
def r17 : List AI := [m 55 12, o 56 (.fadr 3 2), o 57 (.ld false 1 56), m 58 9, o 59 (.call 132 [57, 58]), o 60 (.fadr 3 3), o 61 (.ld true 3 60), o 62 (.ld true 3 14),
  o 63 (.call 99 [61, 62]), o 64 (.call 98 [59, 63]), o 65 (.bslice 65 3 [64]), o 66 (.app 66 3 56 55 65), m 12 66]
def r18 : List AI := [m 67 9, o 68 (.len 67), o 69 (.mk 69 3 56 [(.bool false), .nil, .nil] 68 68), m 15 69]
def r19 : List AI := [o 70 (.fadr 3 0), o 71 (.ld false 1 70), o 72 (.len 71), o 73 (.mov (k 0))]
def r20 : List AI := [o 74 (.bin .lss 73 72)]
def r21 : List AI := [m 75 73, o 76 (.iadr none 1 71 73), o 77 (.ld false 1 76), m 16 75, m 17 77]
def r22 : List AI := [m 78 15, m 79 16, m 80 17, m 81 9, o 82 (.call 132 [80, 81]), o 83 (.fadr 3 1), o 84 (.ld false 1 83), m 85 16, o 86 (.iadr none 3 84 85), o 87 (.ld true 3 86),
  o 88 (.ld true 3 14), o 89 (.call 99 [87, 88]), o 90 (.call 98 [82, 89]), o 91 (.iadr none 3 78 79), n (.st 3 91 90)]
def r23 : List AI := [o 92 (.bin .add 73 (k 1)), m 73 92]
def r24 : List AI := [m 93 15, m 9 93]
def r25 : List AI := [o 94 (.bin .add 51 (k 1)), m 51 94]
def r26 : List AI := [m 95 12, m 96 9, m 6 95, m 7 96, o 8 (.mov (k 0))]
def l1 : ACode := (.seq (.ops r9 false) (.seq (.cond 36 .skip (.exit 0)) (.seq (.block 1 (.seq (.dr (.ops r10 false) [36,37,38,39] []) (.dr (.ops r11 false) [10,11,40,41,42,43,44] []))) (.dr (.ops r12 false) [45] []))))
def l3 : ACode := (.seq (.ops r20 false) (.seq (.cond 74 .skip (.exit 4)) (.seq (.block 5 (.seq (.dr (.ops r21 false) [74,75,76,77] []) (.dr (.ops r22 true) [16,17,78,79,80,81,82,83,84,85,86,87,88,89,90,91] []))) (.dr (.ops r23 false) [92] []))))
def l2 : ACode := (.seq (.ops r15 false) (.seq (.cond 52 .skip (.exit 2)) (.seq (.block 3 (.seq (.dr (.ops r16 false) [52,53,54] []) (.seq (.dr (.ops r17 true) [55,56,57,58,59,60,61,62,63,64,65,66] []) (.seq (.dr (.ops r18 false) [67,68,69] []) (.seq (.seq (.dr (.ops r19 false) [70] []) (.block 4 (.loop l3))) (.dr (.ops r24 false) [14,15,71,72,73,74,93] [])))))) (.dr (.ops r25 false) [94] []))))
def c : ACode := (.seq (.dr (.ops r0 false) [0,6,7,8] []) (.seq (.seq (.dr (.ops r1 false) [18,19] []) (.cond 20 (.seq (.dr (.ops r2 false) [1,2,3,20] []) .ret) .skip)) (.seq (.seq (.dr (.ops r3 false) [20,21,22,23,24,25] []) (.cond 26 (.seq (.dr (.ops r4 false) [1,2,3,26] []) .ret) .skip)) (.seq (.seq (.dr (.ops r5 false) [26,27,28] []) (.cond 29 (.seq (.dr (.ops r6 false) [1,2,3,29] []) .ret) .skip)) (.seq (.dr (.ops r7 false) [29,30,31,32] []) (.seq (.seq (.dr (.ops r8 false) [1] []) (.block 0 (.loop l1))) (.seq (.dr (.ops r13 false) [33,34,35,36,46,47,48] []) (.seq (.seq (.dr (.ops r14 false) [2] []) (.block 2 (.loop l2))) (.seq (.dr (.ops r26 false) [3,9,12,49,50,51,52,95,96] []) .ret)))))))))
end network_Respond
def network_Respond : AFn := ⟨3, network_Respond.c, [.tmp 6, .tmp 7, .tmp 8], false⟩
/-- a library has these functions -/
structure SysGLib (L : Lib) : Prop extends RatGLib L, RefGLib L where
  network_Sound : L 130 = some F.network_Sound
  network_zeros : L 131 = some F.network_zeros
  network_product : L 132 = some F.network_product
  network_Respond : L 133 = some F.network_Respond

end Go.Eng.F


/-
  Functions of the program, as the abstract machine reads them (group LinG). Written by a program (gen.py) off the model's own reading of the translation; the seat's check ties them to it.
-/
namespace Go.Eng.F
open C
namespace network_spread
def r0 : List AI := [o 3 (.box 3 0), o 6 (.mov (.c .nil))]
def r1 : List AI := [o 16 (.fadr 3 8), o 17 (.ld false 1 16), o 18 (.bin .add (k 1) 17), o 19 (.callr 19 131 [18]), m 7 19]
def r2 : List AI := [m 20 1, o 21 (.bin .geq 20 (k 0))]
def r3 : List AI := [m 22 7, m 23 1, o 24 (.call 96 [(k 1)]), o 25 (.iadr none 3 22 23), n (.st 3 25 24)]
def r4 : List AI := [o 26 (.fadr 3 4), o 27 (.fadr 26 1), o 28 (.ld false 1 27), o 29 (.bin .shl (k 1) 28), o 30 (.call 96 [29]), o 8 (.alloc 8 [(.bool false), .nil, .nil]),
  n (.st 3 8 30)]
def r5 : List AI := [o 31 (.fadr 3 9), o 32 (.ld false 1 31), o 33 (.len 32), o 34 (.mov (k 0))]
def r6 : List AI := [o 35 (.bin .lss 34 33)]
def r7 : List AI := [m 36 34, o 37 (.iadr none 1 32 34), o 38 (.ld true 1 37), o 10 (.alloc 10 [.nil]), m 9 36, n (.st 1 10 38)]
def r8 : List AI := [o 39 (.call 96 [(k 0)]), o 11 (.alloc 11 [(.bool false), .nil, .nil]), n (.st 3 11 39)]
def r9 : List AI := [o 40 (.fadr 10 0), o 41 (.ld false 1 40), o 42 (.len 41), o 43 (.mov (k 0))]
def r10 : List AI := [o 44 (.bin .lss 43 42)]
def r11 : List AI := [o 45 (.iadr none 2 41 43), o 46 (.ld true 2 45), o 13 (.alloc 13 [z, z]), n (.st 2 13 46)]
def r12 : List AI := [o 47 (.fadr 13 1), o 48 (.ld false 1 47), o 49 (.bin .neq 48 (k 0)), m 50 49, g 51 50 true (.mov 7), g 52 50 true (.fadr 13 0), g 53 50 true (.ld false 1 52),
  g 54 50 true (.iadr none 3 51 53), g 55 50 true (.ld true 3 54), g 56 50 true (.call 97 [55]), g 57 50 true (.bin .neq 56 (k 0)),
  o 58 (.pick 50 57 (.c (.bool false)))]
def r13 : List AI := [o 59 (.ld true 3 11), o 60 (.fadr 13 1), o 61 (.ld false 1 60), o 62 (.call 96 [61]), m 63 7, o 64 (.fadr 13 0), o 65 (.ld false 1 64),
  o 66 (.iadr none 3 63 65), o 67 (.ld true 3 66), o 68 (.call 99 [62, 67]), o 69 (.call 98 [59, 68]), n (.st 3 11 69)]
def r14 : List AI := [o 70 (.bin .add 43 (k 1)), m 43 70]
def r15 : List AI := [o 72 (.ld true 3 11), o 73 (.ld true 3 8), o 74 (.call 100 [72, 73]), m 71 74, o 75 (.ext 71 0), o 76 (.ext 71 1), o 14 (.alloc 14 [(.bool false), .nil, .nil]),
  n (.st 3 14 75), m 15 76]
def r16 : List AI := [m 77 9, m 78 2, o 79 (.bin .eql 77 78)]
def r17 : List AI := [o 80 (.ld true 3 14), o 81 (.call 96 [(k 1)]), o 82 (.call 98 [80, 81]), n (.st 3 14 82)]
def r18 : List AI := [m 83 7, o 84 (.ld true 3 14), o 85 (.bslice 85 3 [84]), o 86 (.app 86 3 56 83 85), m 7 86]
def r19 : List AI := [o 87 (.bin .add 34 (k 1)), m 34 87]
def r20 : List AI := [m 88 7, m 6 88]
def l2 : ACode := (.seq (.ops r10 false) (.seq (.cond 44 .skip (.exit 2)) (.seq (.block 3 (.seq (.dr (.ops r11 false) [44,45,46] []) (.seq (.dr (.ops r12 false) [47,48,49,50,51,52,53,54,55,56,57] []) (.cond 58 (.dr (.ops r13 true) [13,58,59,60,61,62,63,64,65,66,67,68,69] []) .skip)))) (.dr (.ops r14 false) [13,58,70] []))))
def l1 : ACode := (.seq (.ops r6 false) (.seq (.cond 35 .skip (.exit 0)) (.seq (.block 1 (.seq (.dr (.ops r7 false) [35,36,37,38] []) (.seq (.dr (.ops r8 false) [39] []) (.seq (.seq (.dr (.ops r9 false) [10,40] []) (.block 2 (.loop l2))) (.seq (.dr (.ops r15 false) [11,15,41,42,43,44,71,72,73,74,75,76] []) (.seq (.seq (.dr (.ops r16 false) [9,77,78] []) (.cond 79 (.dr (.ops r17 true) [79,80,81,82] []) .skip)) (.dr (.ops r18 false) [14,79,83,84,85,86] []))))))) (.dr (.ops r19 false) [87] []))))
def c : ACode := (.seq (.dr (.ops r0 false) [0,6] []) (.seq (.dr (.ops r1 false) [16,17,18,19] []) (.seq (.seq (.dr (.ops r2 false) [20] []) (.cond 21 (.dr (.ops r3 false) [1,21,22,23,24,25] []) .skip)) (.seq (.dr (.ops r4 false) [1,21,26,27,28,29,30] []) (.seq (.seq (.dr (.ops r5 false) [3,31] []) (.block 0 (.loop l1))) (.seq (.dr (.ops r20 false) [2,7,8,32,33,34,35,88] []) .ret))))))
end network_spread
def network_spread : AFn := ⟨3, network_spread.c, [.tmp 6], false⟩
namespace network_zero
def r0 : List AI := [o 2 (.alloc 145002 [.nil, .nil, .nil, (.bool false), .nil, .nil])]
def r1 : List AI := [m 5 0, o 6 (.mk 145006 1 24 [.nil] 5 5), m 7 0, ⟨some 8, .callr 145008 131 [7], none, [145006,145003]⟩, m 9 0,
  ⟨some 10, .callr 145010 131 [9], none, [145006,145003]⟩, ⟨some 11, .call 96 [(k 0)], none, [145006,145003]⟩,
  o 12 (.build [.nil, .nil, .nil, (.bool false), .nil, .nil] [(0, 1, 6), (1, 1, 8), (2, 1, 10), (3, 3, 11)]),
  o 3 (.alloc 145003 [.nil, .nil, .nil, (.bool false), .nil, .nil]), n (.st 6 3 12)]
def r2 : List AI := [o 13 (.fadr 3 0), o 14 (.ld false 1 13), o 15 (.len 14), o 16 (.mov (k 0))]
def r3 : List AI := [o 17 (.bin .lss 16 15)]
def r4 : List AI := [m 18 16, m 4 18]
def r5 : List AI := [o 19 (.fadr 3 0), ⟨some 20, .ld false 1 19, none, [145023]⟩, m 21 4, m 22 0, o 23 (.callr 145023 131 [22]), o 24 (.iadr none 1 20 21), n (.st 1 24 23)]
def r6 : List AI := [o 25 (.bin .add 16 (k 1)), m 16 25]
def r7 : List AI := [o 26 (.ld true 6 3), n (.st 6 2 26)]
def l1 : ACode := (.seq (.ops r3 false) (.seq (.cond 17 .skip (.exit 0)) (.seq (.block 1 (.seq (.dr (.ops r4 false) [17,18] []) (.dr (.ops r5 true) [4,19,20,21,22,23,24] []))) (.dr (.ops r6 false) [25] []))))
def c : ACode := (.seq (.ops r0 false) (.seq (.dr (.ops r1 true) [5,6,7,8,9,10,11,12] []) (.seq (.seq (.dr (.ops r2 false) [13,14] []) (.block 0 (.loop l1))) (.seq (.dr (.ops r7 false) [0,3,15,16,17,26] []) .ret))))
end network_zero
def network_zero : AFn := ⟨1, network_zero.c, [.cell 2 true 6], false⟩
namespace network_Linear
def r0 : List AI := [o 1 (.box 1 0), o 2 (.alloc 2 [.nil, .nil, .nil, (.bool false), .nil, .nil]), o 3 (.mov (k 0))]
def r1 : List AI := [o 11 (.ld true 12 1), o 12 (.call 21 [11]), o 13 (.un .not 12)]
def r2 : List AI := [o 14 (.build [.nil, .nil, .nil, (.bool false), .nil, .nil] []), n (.st 6 2 14), o 3 (.mov (k 2))]
def r3 : List AI := [o 15 (.fadr 1 8), o 16 (.ld false 1 15), o 17 (.bin .add 16 (k 1)), o 18 (.mk 18 1 24 [.nil] 17 17), m 4 18]
def r4 : List AI := [m 19 4, o 20 (.len 19), o 21 (.mov (k 0))]
def r5 : List AI := [o 22 (.bin .lss 21 20)]
def r6 : List AI := [m 23 21, m 5 23]
def r7 : List AI := [m 24 4, m 25 5, o 26 (.ld true 12 1), m 27 5, o 28 (.call 144 [26, 27, (k (-1))]), o 29 (.iadr none 1 24 25), n (.st 1 29 28)]
def r8 : List AI := [o 30 (.bin .add 21 (k 1)), m 21 30]
def r9 : List AI := [o 31 (.fadr 1 8), o 32 (.ld false 1 31), o 33 (.calli 145 [32]), o 6 (.alloc 6 [.nil, .nil, .nil, (.bool false), .nil, .nil]), n (.st 6 6 33)]
def r10 : List AI := [o 34 (.fadr 1 10), o 35 (.ld false 1 34), o 36 (.len 35), o 37 (.mov (k 0))]
def r11 : List AI := [o 38 (.bin .lss 37 36)]
def r12 : List AI := [m 39 37, o 40 (.iadr none 1 35 37), o 41 (.ld false 1 40), m 7 39, m 8 41]
def r13 : List AI := [o 42 (.fadr 1 8), o 43 (.ld false 1 42), o 44 (.mov (k 0))]
def r14 : List AI := [o 45 (.bin .lss 44 43)]
def r15 : List AI := [m 46 44, m 9 46]
def r16 : List AI := [o 47 (.fadr 6 0), o 48 (.ld false 1 47), m 49 7, o 50 (.iadr none 1 48 49), o 51 (.ld false 1 50), m 52 9, m 53 4, m 54 9, o 55 (.bin .add 54 (k 1)),
  o 56 (.iadr none 1 53 55), o 57 (.ld false 1 56), m 58 8, o 59 (.iadr none 3 57 58), o 60 (.ld true 3 59), o 61 (.call 95 [60]), o 62 (.iadr none 3 51 52),
  n (.st 3 62 61)]
def r17 : List AI := [o 63 (.bin .add 44 (k 1)), m 44 63]
def r18 : List AI := [o 64 (.fadr 6 1), o 65 (.ld false 1 64), m 66 7, m 67 4, o 68 (.iadr none 1 67 (k 0)), o 69 (.ld false 1 68), m 70 8, o 71 (.iadr none 3 69 70),
  o 72 (.ld true 3 71), o 73 (.call 95 [72]), o 74 (.iadr none 3 65 66), n (.st 3 74 73)]
def r19 : List AI := [o 75 (.bin .add 37 (k 1)), m 37 75]
def r20 : List AI := [o 76 (.fadr 1 8), o 77 (.ld false 1 76), o 78 (.mov (k 0))]
def r21 : List AI := [o 79 (.bin .lss 78 77)]
def r22 : List AI := [m 80 78, m 10 80]
def r23 : List AI := [o 81 (.fadr 6 2), o 82 (.ld false 1 81), m 83 10, m 84 4, m 85 10, o 86 (.bin .add 85 (k 1)), o 87 (.iadr none 1 84 86), o 88 (.ld false 1 87),
  o 89 (.fadr 1 11), o 90 (.ld false 1 89), o 91 (.iadr none 3 88 90), o 92 (.ld true 3 91), o 93 (.call 95 [92]), o 94 (.iadr none 3 82 83), n (.st 3 94 93)]
def r24 : List AI := [o 95 (.bin .add 78 (k 1)), m 78 95]
def r25 : List AI := [m 96 4, o 97 (.iadr none 1 96 (k 0)), o 98 (.ld false 1 97), o 99 (.fadr 1 11), o 100 (.ld false 1 99), o 101 (.iadr none 3 98 100), o 102 (.ld true 3 101),
  o 103 (.call 95 [102]), o 104 (.fadr 6 3), n (.st 3 104 103)]
def r26 : List AI := [o 105 (.ld true 6 6), n (.st 6 2 105), o 3 (.mov (k 0))]
def l1 : ACode := (.seq (.ops r5 false) (.seq (.cond 22 .skip (.exit 0)) (.seq (.block 1 (.seq (.dr (.ops r6 false) [22,23] []) (.dr (.ops r7 false) [5,24,25,26,27,28,29] []))) (.dr (.ops r8 false) [30] []))))
def l3 : ACode := (.seq (.ops r14 false) (.seq (.cond 45 .skip (.exit 4)) (.seq (.block 5 (.seq (.dr (.ops r15 false) [45,46] []) (.dr (.ops r16 true) [9,47,48,49,50,51,52,53,54,55,56,57,58,59,60,61,62] []))) (.dr (.ops r17 false) [63] []))))
def l2 : ACode := (.seq (.ops r11 false) (.seq (.cond 38 .skip (.exit 2)) (.seq (.block 3 (.seq (.dr (.ops r12 false) [38,39,40,41] []) (.seq (.seq (.dr (.ops r13 false) [42] []) (.block 4 (.loop l3))) (.dr (.ops r18 true) [7,8,43,44,45,64,65,66,67,68,69,70,71,72,73,74] [])))) (.dr (.ops r19 false) [75] []))))
def l4 : ACode := (.seq (.ops r21 false) (.seq (.cond 79 .skip (.exit 6)) (.seq (.block 7 (.seq (.dr (.ops r22 false) [79,80] []) (.dr (.ops r23 true) [10,81,82,83,84,85,86,87,88,89,90,91,92,93,94] []))) (.dr (.ops r24 false) [95] []))))
def c : ACode := (.seq (.dr (.ops r0 false) [0,3] []) (.seq (.seq (.dr (.ops r1 false) [11,12] []) (.cond 13 (.seq (.dr (.ops r2 false) [1,13,14] []) .ret) .skip)) (.seq (.dr (.ops r3 false) [13,15,16,17,18] []) (.seq (.seq (.dr (.ops r4 false) [19] []) (.block 0 (.loop l1))) (.seq (.dr (.ops r9 false) [20,21,22,31,32,33] []) (.seq (.seq (.dr (.ops r10 false) [34] []) (.block 2 (.loop l2))) (.seq (.seq (.dr (.ops r20 false) [35,36,37,38,76] []) (.block 6 (.loop l4))) (.seq (.dr (.ops r25 true) [1,4,77,78,79,96,97,98,99,100,101,102,103,104] []) (.seq (.dr (.ops r26 false) [6,105] []) .ret)))))))))
end network_Linear
def network_Linear : AFn := ⟨1, network_Linear.c, [.cell 2 true 6, .tmp 3], false⟩
/-- a library has these functions -/
structure LinGLib (L : Lib) : Prop extends SysGLib L, NetLib L where
  network_spread : L 144 = some F.network_spread
  network_zero : L 145 = some F.network_zero
  network_Linear : L 146 = some F.network_Linear

end Go.Eng.F


/-
  Functions of the program, as the abstract machine reads them (group IntsG). Written by a program (gen.py) off the model's own reading of the translation; the seat's check ties them to it.
-/
namespace Go.Eng.F
open C
namespace world_Ints
def r0 : List AI := [o 2 (.mov (.c .nil))]
def r1 : List AI := [o 3 (.vrow 3 3)]
def r2 : List AI := [o 4 (.mov (k 0))]
def r3 : List AI := [m 5 4, m 6 0, o 7 (.len 6), o 8 (.bin .lss 5 7)]
def r5 : List AI := [m 11 3, m 12 0, m 13 4, o 14 (.iadr none 1 12 13), o 15 (.ld false 1 14), o 16 (.call 124 [15]), o 17 (.bslice 17 3 [16]), o 18 (.app 18 3 56 11 17), m 3 18]
def r4 : List AI := [m 9 4, o 10 (.bin .add 9 (k 1)), m 4 10]
def r6 : List AI := [m 19 3, m 2 19]
def l1 : ACode := (.seq (.seq (.dr (.ops r3 false) [5,6,7] []) (.cond 8 .skip (.exit 0))) (.seq (.block 1 (.dr (.ops r5 false) [8,11,12,13,14,15,16,17,18] [])) (.dr (.ops r4 false) [9,10] [])))
def c : ACode := (.seq (.dr (.ops r0 false) [2] []) (.seq (.ops r1 false) (.seq (.seq (.ops r2 false) (.block 0 (.loop l1))) (.seq (.dr (.ops r6 false) [0,3,4,8,19] []) .ret))))
end world_Ints
def world_Ints : AFn := ⟨1, world_Ints.c, [.tmp 2], false⟩
/-- a library has these functions -/
structure IntsGLib (L : Lib) : Prop extends RefGLib L where
  world_Ints : L 147 = some F.world_Ints

end Go.Eng.F


/-
  Functions of the program, as the abstract machine reads them (group RunG). Written by a program (gen.py) off the model's own reading of the translation; the seat's check ties them to it.
-/
namespace Go.Eng.F
open C
namespace world_Raw_Net
def r0 : List AI := [o 1 (.box 1 0), o 2 (.alloc 2 [z, z, z, z, z, z, z, z, z, .nil, .nil, z])]
def r1 : List AI := [o 10 (.fadr 1 0), ⟨some 11, .ld false 1 10, none, [3]⟩, ⟨some 12, .call 37 [11], none, [3]⟩, o 13 (.fadr 1 1), ⟨some 14, .ld false 1 13, none, [3]⟩,
  ⟨some 15, .call 38 [14], none, [3]⟩, o 16 (.fadr 1 2), ⟨some 17, .ld false 1 16, none, [3]⟩, ⟨some 18, .call 34 [17, (k 4)], none, [3]⟩,
  o 19 (.build [z, z, z, z, z, z, z, z, z, .nil, .nil, z] [(0, 4, 12), (4, 4, 15), (8, 1, 18)]), o 3 (.alloc 3 [z, z, z, z, z, z, z, z, z, .nil, .nil, z]),
  n (.st 12 3 19)]
def r2 : List AI := [o 20 (.fadr 3 4), o 21 (.fadr 20 1), o 22 (.ld false 1 21), o 23 (.conv .u64 22), o 24 (.bin .shl (k 1) 23), m 4 24]
def r3 : List AI := [o 5 (.mov (k 0))]
def r4 : List AI := [m 25 5, o 26 (.fadr 1 3), o 27 (.ld false 1 26), o 28 (.len 27), o 29 (.bin .lss 25 28), m 30 29, g 31 30 true (.mov 5), g 32 30 true (.bin .lss 31 (k 4)),
  o 33 (.pick 30 32 (.c (.bool false)))]
def r6 : List AI := [o 36 (.build [.nil] []), o 6 (.alloc 6 [.nil]), n (.st 1 6 36)]
def r7 : List AI := [o 7 (.mov (k 0))]
def r8 : List AI := [m 37 7, o 38 (.fadr 1 3), o 39 (.ld false 1 38), m 40 5, o 41 (.iadr none 2 39 40), o 42 (.fadr 41 0), o 43 (.ld false 1 42), o 44 (.len 43),
  o 45 (.bin .lss 37 44), m 46 45, g 47 46 true (.mov 7), g 48 46 true (.bin .lss 47 (k 4)), o 49 (.pick 46 48 (.c (.bool false)))]
def r10 : List AI := [o 52 (.fadr 1 3), ⟨some 53, .ld false 1 52, none, [8]⟩, m 54 5, o 55 (.iadr none 2 53 54), o 56 (.fadr 55 0), ⟨some 57, .ld false 1 56, none, [8]⟩, m 58 7,
  o 59 (.iadr none 1 57 58), ⟨some 60, .ld false 1 59, none, [8]⟩, o 61 (.fadr 3 8), ⟨some 62, .ld false 1 61, none, [8]⟩, o 63 (.bin .add (k 1) 62), m 64 5,
  o 65 (.bin .add 63 64), ⟨some 66, .call 34 [60, 65], none, [8]⟩, o 67 (.fadr 3 4), ⟨some 68, .ld true 4 67, none, [8]⟩, o 69 (.fadr 1 3),
  ⟨some 70, .ld false 1 69, none, [8]⟩, m 71 5, o 72 (.iadr none 2 70 71), o 73 (.fadr 72 1), ⟨some 74, .ld false 1 73, none, [8]⟩, m 75 7,
  o 76 (.bin .add 75 (k 1)), ⟨some 77, .call 39 [68, 74, 76], none, [8]⟩, m 78 7, o 79 (.iadr none 1 77 78), ⟨some 80, .ld false 1 79, none, [8]⟩,
  o 81 (.build [z, z] [(0, 1, 66), (1, 1, 80)]), o 8 (.alloc 8 [z, z]), n (.st 2 8 81)]
def r11 : List AI := [o 82 (.fadr 1 6), o 83 (.ld false 1 82)]
def r12 : List AI := [m 84 4, o 85 (.fadr 1 3), o 86 (.ld false 1 85), m 87 5, o 88 (.iadr none 2 86 87), o 89 (.fadr 88 1), o 90 (.ld false 1 89), m 91 7, o 92 (.call 35 [90, 91]),
  o 93 (.call 34 [92, (k 3)]), o 94 (.bin .sub 93 (k 1)), o 95 (.bin .mul 84 94), o 96 (.fadr 8 1), n (.st 1 96 95)]
def r13 : List AI := [o 97 (.fadr 6 0), o 98 (.ld false 1 97), o 99 (.ld true 2 8), o 100 (.bslice 100 2 [99]), o 101 (.app 101 2 16 98 100), o 102 (.fadr 6 0), n (.st 1 102 101)]
def r9 : List AI := [m 50 7, o 51 (.bin .add 50 (k 1)), m 7 51]
def r14 : List AI := [o 103 (.fadr 3 9), o 104 (.ld false 1 103), o 105 (.ld true 1 6), o 106 (.bslice 106 1 [105]), o 107 (.app 107 1 24 104 106), o 108 (.fadr 3 9),
  n (.st 1 108 107)]
def r5 : List AI := [m 34 5, o 35 (.bin .add 34 (k 1)), m 5 35]
def r15 : List AI := [o 9 (.mov (k 0))]
def r16 : List AI := [m 109 9, o 110 (.fadr 3 8), o 111 (.ld false 1 110), o 112 (.bin .lss 109 111)]
def r18 : List AI := [o 115 (.fadr 3 10), ⟨some 116, .ld false 1 115, none, [129]⟩, o 117 (.fadr 1 4), o 118 (.ld false 1 117), m 119 9, o 120 (.call 35 [118, 119]),
  o 121 (.fadr 3 8), o 122 (.ld false 1 121), o 123 (.bin .add (k 1) 122), o 124 (.fadr 3 9), o 125 (.ld false 1 124), o 126 (.len 125),
  o 127 (.bin .add 123 126), o 128 (.call 34 [120, 127]), o 129 (.bslice 129 1 [128]), o 130 (.app 130 1 8 116 129), o 131 (.fadr 3 10), n (.st 1 131 130)]
def r17 : List AI := [m 113 9, o 114 (.bin .add 113 (k 1)), m 9 114]
def r19 : List AI := [o 132 (.fadr 1 5), o 133 (.ld false 1 132), o 134 (.fadr 3 8), o 135 (.ld false 1 134), o 136 (.bin .add (k 1) 135), o 137 (.fadr 3 9), o 138 (.ld false 1 137),
  o 139 (.len 138), o 140 (.bin .add 136 139), o 141 (.call 34 [133, 140]), o 142 (.fadr 3 11), n (.st 1 142 141)]
def r20 : List AI := [o 143 (.ld true 12 3), n (.st 12 2 143)]
def l2 : ACode := (.seq (.seq (.dr (.ops r8 false) [37,38,39,40,41,42,43,44,45,46,47,48] []) (.cond 49 .skip (.exit 2))) (.seq (.block 3 (.seq (.dr (.ops r10 true) [49,52,53,54,55,56,57,58,59,60,61,62,63,64,65,66,67,68,69,70,71,72,73,74,75,76,77,78,79,80,81] []) (.seq (.seq (.dr (.ops r11 false) [82] []) (.cond 83 (.dr (.ops r12 false) [83,84,85,86,87,88,89,90,91,92,93,94,95,96] []) .skip)) (.dr (.ops r13 false) [8,83,97,98,99,100,101,102] [])))) (.dr (.ops r9 false) [50,51] [])))
def l1 : ACode := (.seq (.seq (.dr (.ops r4 false) [25,26,27,28,29,30,31,32] []) (.cond 33 .skip (.exit 0))) (.seq (.block 1 (.seq (.dr (.ops r6 false) [33,36] []) (.seq (.seq (.ops r7 false) (.block 2 (.loop l2))) (.dr (.ops r14 false) [6,7,49,103,104,105,106,107,108] [])))) (.dr (.ops r5 false) [34,35] [])))
def l3 : ACode := (.seq (.seq (.dr (.ops r16 false) [109,110,111] []) (.cond 112 .skip (.exit 4))) (.seq (.block 5 (.dr (.ops r18 true) [112,115,116,117,118,119,120,121,122,123,124,125,126,127,128,129,130,131] [])) (.dr (.ops r17 false) [113,114] [])))
def c : ACode := (.seq (.dr (.ops r0 false) [0] []) (.seq (.dr (.ops r1 true) [10,11,12,13,14,15,16,17,18,19] []) (.seq (.dr (.ops r2 false) [20,21,22,23,24] []) (.seq (.seq (.ops r3 false) (.block 0 (.loop l1))) (.seq (.seq (.dr (.ops r15 false) [4,5,33] []) (.block 4 (.loop l3))) (.seq (.dr (.ops r19 false) [1,9,112,132,133,134,135,136,137,138,139,140,141,142] []) (.seq (.dr (.ops r20 false) [3,143] []) .ret)))))))
end world_Raw_Net
def world_Raw_Net : AFn := ⟨1, world_Raw_Net.c, [.cell 2 true 12], false⟩
namespace network_Run
def r0 : List AI := [o 3 (.box 3 0), o 6 (.mov (.c .nil)), o 7 (.mov (.c .nil)), o 8 (.mov (k 0)), o 9 (.mov (k 0))]
def r1 : List AI := [o 18 (.ld true 12 3), o 19 (.call 21 [18]), o 20 (.un .not 19)]
def r2 : List AI := [o 6 (.mov (.c .nil)), o 7 (.mov (.c .nil)), o 8 (.mov (k 0)), o 9 (.mov (k 2))]
def r3 : List AI := [m 21 2, o 22 (.len 21), o 23 (.bin .gtr 22 (k 4096))]
def r4 : List AI := [o 6 (.mov (.c .nil)), o 7 (.mov (.c .nil)), o 8 (.mov (k 0)), o 9 (.mov (k 4))]
def r5 : List AI := [o 24 (.ld true 12 3), m 25 1, m 26 2, o 27 (.call 22 [24, 25, 26]), m 10 27]
def r6 : List AI := [m 28 10, o 29 (.bin .neq 28 (k 0))]
def r7 : List AI := [m 30 10, o 6 (.mov (.c .nil)), o 7 (.mov (.c .nil)), o 8 (.mov (k 0)), m 9 30]
def r8 : List AI := [m 31 1, o 32 (.len 31), o 33 (.mk 33 1 8 [z] 32 32), m 11 33]
def r9 : List AI := [m 34 11, m 35 1, o 36 (.cpy 1 34 35)]
def r10 : List AI := [m 37 2, o 38 (.len 37), o 39 (.mk 39 1 8 [z] (k 0) 38), m 12 39]
def r11 : List AI := [o 13 (.mov (k 0))]
def r12 : List AI := [m 40 2, o 41 (.len 40), o 42 (.mov (k 0))]
def r13 : List AI := [o 43 (.bin .lss 42 41)]
def r14 : List AI := [o 44 (.iadr none 1 40 42), o 45 (.ld false 1 44), m 15 45]
def r15 : List AI := [o 47 (.ld true 12 3), m 48 11, m 49 15, o 50 (.call 23 [47, 48, 49]), m 46 50, o 51 (.ext 46 0), o 52 (.ext 46 1), m 16 51, m 17 52]
def r16 : List AI := [m 53 11, o 54 (.ld true 12 3), m 55 16, o 56 (.call 25 [54, 55]), o 57 (.cpy 1 53 56)]
def r17 : List AI := [m 58 12, m 59 16, o 60 (.fadr 3 11), o 61 (.ld false 1 60), o 62 (.iadr none 1 59 61), o 63 (.ld false 1 62), o 64 (.bslice 64 1 [63]),
  o 65 (.app 65 1 8 58 64), m 12 65]
def r18 : List AI := [m 66 17]
def r19 : List AI := [m 67 13, o 68 (.bin .add 67 (k 1)), m 13 68]
def r20 : List AI := [o 69 (.bin .add 42 (k 1)), m 42 69]
def r21 : List AI := [m 70 12, m 71 11, m 72 13, m 6 70, m 7 71, m 8 72, o 9 (.mov (k 0))]
def l1 : ACode := (.seq (.ops r13 false) (.seq (.cond 43 .skip (.exit 0)) (.seq (.block 1 (.seq (.dr (.ops r14 false) [43,44,45] []) (.seq (.dr (.ops r15 false) [15,46,47,48,49,50,51,52] []) (.seq (.dr (.ops r16 false) [53,54,55,56,57] []) (.seq (.dr (.ops r17 false) [16,58,59,60,61,62,63,64,65] []) (.seq (.dr (.ops r18 false) [17] []) (.cond 66 (.dr (.ops r19 false) [66,67,68] []) .skip))))))) (.dr (.ops r20 false) [66,69] []))))
def c : ACode := (.seq (.dr (.ops r0 false) [0,6,7,8,9] []) (.seq (.seq (.dr (.ops r1 false) [18,19] []) (.cond 20 (.seq (.dr (.ops r2 false) [1,2,3,20] []) .ret) .skip)) (.seq (.seq (.dr (.ops r3 false) [20,21,22] []) (.cond 23 (.seq (.dr (.ops r4 false) [1,2,3,23] []) .ret) .skip)) (.seq (.seq (.dr (.ops r5 false) [23,24,25,26,27] []) (.seq (.dr (.ops r6 false) [28] []) (.cond 29 (.seq (.dr (.ops r7 false) [1,2,3,10,29,30] []) .ret) .skip))) (.seq (.dr (.ops r8 false) [10,29,31,32,33] []) (.seq (.dr (.ops r9 false) [1,34,35,36] []) (.seq (.dr (.ops r10 false) [37,38,39] []) (.seq (.ops r11 false) (.seq (.seq (.dr (.ops r12 false) [2] []) (.block 0 (.loop l1))) (.seq (.dr (.ops r21 false) [3,11,12,13,40,41,42,43,70,71,72] []) .ret))))))))))
end network_Run
def network_Run : AFn := ⟨3, network_Run.c, [.tmp 6, .tmp 7, .tmp 8, .tmp 9], false⟩
/-- a library has these functions -/
structure RunGLib (L : Lib) : Prop extends NetLib L, WorldLib L where
  world_Raw_Net : L 42 = some F.world_Raw_Net
  network_Run : L 43 = some F.network_Run

end Go.Eng.F


/-
  Functions of the program, as the abstract machine reads them (group LawE). Written by a program (gen.py) off the model's own reading of the translation; the seat's check ties them to it.
-/
namespace Go.Eng.F
open C
namespace law22_NetworkIsExact
def r0 : List AI := [o 3 (.box 3 0), o 6 (.mov (.c (.bool false)))]
def r1 : List AI := [o 19 (.fadr 3 6), n (.st 1 19 (.c (.bool true)))]
def r2 : List AI := [o 20 (.ld true 7 3), o 21 (.call 42 [20]), o 7 (.alloc 7 [z, z, z, z, z, z, z, z, z, .nil, .nil, z]), n (.st 12 7 21)]
def r3 : List AI := [m 22 2, o 23 (.len 22), o 24 (.bin .gtr 23 (k 12))]
def r4 : List AI := [o 25 (.call 32 []), m 6 25]
def r5 : List AI := [m 26 1, o 27 (.fadr 7 8), o 28 (.ld false 1 27), o 29 (.call 40 [(k 2), 26, 28]), m 30 2, m 31 2, o 32 (.len 31), o 33 (.call 40 [(k 2), 30, 32]), m 8 29,
  m 9 33]
def r6 : List AI := [o 35 (.ld true 12 7), m 36 8, m 37 9, o 38 (.call 43 [35, 36, 37]), m 34 38, o 39 (.ext 34 0), o 40 (.ext 34 1), o 41 (.ext 34 2), o 42 (.ext 34 3), m 10 39,
  m 11 40, m 12 41, m 13 42]
def r7 : List AI := [o 44 (.ld true 12 7), o 45 (.call 146 [44]), m 43 45, o 46 (.ext 43 0), o 47 (.ext 43 1), o 14 (.alloc 14 [.nil, .nil, .nil, (.bool false), .nil, .nil]),
  n (.st 6 14 46), m 15 47]
def r8 : List AI := [o 49 (.ld true 6 14), m 50 8, o 51 (.call 147 [50]), m 52 9, o 53 (.call 147 [52]), o 54 (.call 133 [49, 51, 53]), m 48 54, o 55 (.ext 48 0), o 56 (.ext 48 1),
  o 57 (.ext 48 2), m 16 55, m 17 56, m 18 57]
def r9 : List AI := [m 58 13, o 59 (.bin .neq 58 (k 0)), m 60 59, g 61 60 false (.mov 15), g 62 60 false (.bin .neq 61 (k 0)), o 63 (.pick 60 (.c (.bool true)) 62), m 64 63,
  g 65 64 false (.mov 18), g 66 64 false (.bin .neq 65 (k 0)), o 67 (.pick 64 (.c (.bool true)) 66)]
def r10 : List AI := [o 6 (.mov (.c (.bool false)))]
def r11 : List AI := [o 68 (.call 32 []), m 69 68, g 70 69 true (.mov 12), g 71 69 true (.bin .gtr 70 (k 0)), g 72 69 true (.mov 71), g 73 72 false (.mov 16),
  g 74 72 false (.mov 10), g 75 72 false (.call 147 [74]), g 76 72 false (.call 129 [73, 75]), g 77 72 false (.mov 76), g 78 77 true (.mov 17),
  g 79 77 true (.mov 11), g 80 77 true (.call 147 [79]), g 81 77 true (.call 129 [78, 80]), g 82 72 false (.pick 77 81 (.c (.bool false))),
  g 83 69 true (.pick 72 (.c (.bool true)) 82), o 84 (.pick 69 83 (.c (.bool false))), m 6 84]
def c : ACode := (.seq (.dr (.ops r0 false) [0,6] []) (.seq (.dr (.ops r1 false) [19] []) (.seq (.dr (.ops r2 false) [3,20,21] []) (.seq (.seq (.dr (.ops r3 false) [22,23] []) (.cond 24 (.seq (.dr (.ops r4 false) [1,2,7,24,25] []) .ret) .skip)) (.seq (.dr (.ops r5 false) [1,2,24,26,27,28,29,30,31,32,33] []) (.seq (.dr (.ops r6 false) [34,35,36,37,38,39,40,41,42] []) (.seq (.dr (.ops r7 false) [7,43,44,45,46,47] []) (.seq (.dr (.ops r8 true) [8,9,14,48,49,50,51,52,53,54,55,56,57] []) (.seq (.seq (.dr (.ops r9 false) [13,15,18,58,59,60,61,62,63,64,65,66] []) (.cond 67 (.seq (.dr (.ops r10 false) [10,11,12,16,17,67] []) .ret) .skip)) (.seq (.dr (.ops r11 false) [10,11,12,16,17,67,68,69,70,71,72,73,74,75,76,77,78,79,80,81,82,83,84] []) .ret))))))))))
end law22_NetworkIsExact
def law22_NetworkIsExact : AFn := ⟨3, law22_NetworkIsExact.c, [.tmp 6], false⟩
/-- a library has these functions -/
structure LawELib (L : Lib) : Prop extends LinGLib L, IntsGLib L, RunGLib L where
  law22_NetworkIsExact : L 148 = some F.law22_NetworkIsExact

end Go.Eng.F


/-
  Rules to run the abstract machine by rewriting.
-/
namespace Go.Eng

/-! ### more fuel, the same -/
section
variable {L : Lib}

def Cl.le (C C' : Cl) : Prop := (∀ f vs r, C.pure f vs = some r → C'.pure f vs = some r) ∧ (∀ f vs o r, C.inn f vs o = some r → C'.inn f vs o = some r) ∧ C.num = C'.num

theorem adoptR_mono {x y : Option (AV × Own)} {r : Nat × List (List AV)} (h : ∀ q, x = some q → y = some q) (hr : adoptR x = some r) : adoptR y = some r := by
  cases x with
  | none => simp [adoptR] at hr
  | some q => rw [h q rfl]; exact hr
theorem eff_mono {C C' : Cl} (h : C.le C') {ban : List Nat} {ρ : Opd → AV} {own : Own} {op : AOp} {E : Eff} (he : eff C ban ρ own op = some E) : eff C' ban ρ own op = some E := by
  cases op with
  | call f xs =>
    simp only [eff] at he ⊢
    split at he
    · rename_i vs hvs
      simp only [Option.map_eq_some_iff] at he ⊢
      obtain ⟨r, hr, rfl⟩ := he
      exact ⟨r, h.1 f vs r hr, rfl⟩
    · cases he
  | calli f xs =>
    simp only [eff, Option.map_eq_some_iff] at he ⊢
    obtain ⟨r, hr, rfl⟩ := he
    exact ⟨r, h.2.1 f _ own r hr, rfl⟩
  | mkf p f xs => simp only [eff] at he ⊢; rw [← h.2.2]; exact he
  | callr s f xs =>
    simp only [eff] at he ⊢
    split at he
    · rename_i vs hvs
      simp only [Option.map_eq_some_iff] at he ⊢
      obtain ⟨r, hr, rfl⟩ := he
      exact ⟨r, adoptR_mono (h.2.1 f vs Own.emp) hr, rfl⟩
    · cases he
  | callq f xs =>
    simp only [eff] at he ⊢
    split at he
    · rename_i hq
      rw [if_pos hq]
      split at he
      · rename_i r hr
        rw [h.1 _ _ r hr]
        exact he
      · cases he
    · cases he
  | callv x xs =>
    simp only [eff] at he ⊢
    rw [← h.2.2]
    split at he
    · split at he
      · rename_i hg
        rw [if_pos hg]
        split at he
        · split at he
          · rename_i vs hvs
            simp only [Option.map_eq_some_iff] at he ⊢
            obtain ⟨r, hr, rfl⟩ := he
            exact ⟨r, h.1 _ vs r hr, rfl⟩
          · cases he
        · simp only [Option.map_eq_some_iff] at he ⊢
          obtain ⟨r, hr, rfl⟩ := he
          exact ⟨r, h.2.1 _ _ own r hr, rfl⟩
        · cases he
      · cases he
    · cases he
  | _ => exact he

theorem stepI_mono {C C' : Cl} (h : C.le C') {o : AI} {st st' : St} (he : stepI C o st = some st') : stepI C' o st = some st' := by
  unfold stepI at he ⊢
  split at he
  · simp only [Option.map_eq_some_iff] at he ⊢
    obtain ⟨E, h1, h2⟩ := he
    exact ⟨E, eff_mono h h1, h2⟩
  · exact he
  · exact he

theorem stepL_mono {C C' : Cl} (h : C.le C') : ∀ {l : List AI} {st st' : St}, stepL C l st = some st' → stepL C' l st = some st'
  | [], st, st', he => he
  | o :: r, st, st', he => by
    simp only [stepL] at he ⊢
    cases hs : stepI C o st with
    | none => simp [hs] at he
    | some st1 =>
      rw [stepI_mono h hs]
      simp only [hs] at he
      exact stepL_mono h he

theorem run_mono {C C' : Cl} (h : C.le C') : ∀ {n n' : Nat} {k : List It} {st st' : St}, n ≤ n' → run C n k st = some st' → run C' n' k st = some st' := by
  intro n
  induction n with
  | zero => intro n' k st st' _ hr; simp [run] at hr
  | succ n ih =>
    intro n' k st st' hn hr
    obtain ⟨q, rfl⟩ : ∃ q, n' = q + 1 := ⟨n' - 1, by omega⟩
    have hq : n ≤ q := by omega
    cases k with
    | nil => exact hr
    | cons it k =>
      cases it with
      | blk id => simp only [run] at hr ⊢; exact ih hq hr
      | drp ts ss => simp only [run] at hr ⊢; exact ih hq hr
      | lp c => simp only [run] at hr ⊢; exact ih hq hr
      | code c =>
        cases c with
        | skip => simp only [run] at hr ⊢; exact ih hq hr
        | ops l d =>
          simp only [run] at hr ⊢
          cases hs : stepL C l st with
          | none => simp [hs] at hr
          | some st1 =>
            rw [stepL_mono h hs]
            simp only [hs] at hr
            exact ih hq hr
        | dr c ts ss => simp only [run] at hr ⊢; exact ih hq hr
        | scope c => simp only [run] at hr ⊢; exact ih hq hr
        | seq a b => simp only [run] at hr ⊢; exact ih hq hr
        | cond x a b =>
          simp only [run] at hr ⊢
          split at hr
          · exact ih hq hr
          · exact ih hq hr
          · cases hr
        | block id c => simp only [run] at hr ⊢; exact ih hq hr
        | loop c => simp only [run] at hr ⊢; exact ih hq hr
        | exit id =>
          simp only [run] at hr ⊢
          split at hr
          · exact ih hq hr
          · cases hr
        | ret => exact hr

theorem pureP_mono {I I' : List AV → Option (AV × Own)} (hI : ∀ vs r, I vs = some r → I' vs = some r) {vs : List AV} {r : AV} (h : pureP I vs = some r) : pureP I' vs = some r := by
  unfold pureP at h ⊢
  cases he : I vs with
  | none => simp [he] at h
  | some x => rw [hI vs _ he]; simpa [he] using h
theorem pureS_mono {b : Bool} {I I' : List AV → Option (AV × Own)} (hI : ∀ vs r, I vs = some r → I' vs = some r) {vs : List AV} {r : AV} (h : pureS b I vs = some r) : pureS b I' vs = some r := by
  unfold pureS at h ⊢
  split at h
  · split at h
    · rename_i r1 r2 h1 h2
      rw [pureP_mono hI h1, pureP_mono hI h2]
      exact h
    · cases h
  · exact pureP_mono hI h
theorem ev_mono : ∀ (n : Nat), (clAt L n).le (clAt L (n + 1)) := by
  have inn : ∀ n, (∀ f vs o r, evI L n f vs o = some r → evI L (n + 1) f vs o = some r) → ∀ f vs r, evP L n f vs = some r → evP L (n + 1) f vs = some r := by
    intro n hI f vs r h
    exact pureS_mono (fun vs r h => hI f vs _ r h) h
  intro n
  induction n with
  | zero =>
    have : ∀ f vs o r, evI L 0 f vs o = some r → evI L 1 f vs o = some r := fun f vs o r h => by simp [evI] at h
    exact ⟨inn 0 this, this, rfl⟩
  | succ n ih =>
    have : ∀ f vs o r, evI L (n + 1) f vs o = some r → evI L (n + 2) f vs o = some r := fun f vs o r h => by
      rw [evI_succ] at h ⊢
      cases hL : L f with
      | none => simp [hL] at h
      | some fn =>
        simp only [hL] at h ⊢
        split at h
        · rename_i hp
          rw [if_pos hp]
          cases hr : run (clAt L n) n [.code fn.body] ⟨initTm 0 vs, o⟩ with
          | none => simp [hr] at h
          | some st =>
            rw [run_mono ih (Nat.le_succ n) hr]
            simpa [hr] using h
        · cases h
    exact ⟨inn (n + 1) this, this, rfl⟩

theorem cl_le {n n' : Nat} (h : n ≤ n') : (clAt L n).le (clAt L n') := by
  induction h with
  | refl => exact ⟨fun _ _ _ h => h, fun _ _ _ _ h => h, rfl⟩
  | step _ ih => exact ⟨fun f vs r h => (ev_mono _).1 f vs r (ih.1 f vs r h), fun f vs o r h => (ev_mono _).2.1 f vs o r (ih.2.1 f vs o r h), rfl⟩

/-- a call that only reads, and what it comes to -/
def Ev (L : Lib) (f : Nat) (vs : List AV) (r : AV) : Prop := ∃ n, evP L n f vs = some r
/-- the same with the arguments as they stand -/
def EvD (L : Lib) (f : Nat) (vs : List AV) (r : AV) : Prop := ∃ n, pureP (fun vs => evI L n f vs Own.emp) vs = some r
/-- a call in the caller's own memory -/
def EvI (L : Lib) (f : Nat) (vs : List AV) (o : Own) (r : AV) (o' : Own) : Prop := ∃ n, evI L n f vs o = some (r, o')

/-- a call that gives back a new row of data -/
def EvR (L : Lib) (f : Nat) (vs : List AV) (z : Nat) (es : List (List AV)) : Prop := ∃ n, adoptR (evI L n f vs Own.emp) = some (z, es)
theorem Ev.det {f : Nat} {vs : List AV} {r r' : AV} (h : Ev L f vs r) (h' : Ev L f vs r') : r = r' := by
  obtain ⟨n, hn⟩ := h
  obtain ⟨n', hn'⟩ := h'
  have h1 := (cl_le (L := L) (Nat.le_max_left n n')).1 f vs r hn
  have h2 := (cl_le (L := L) (Nat.le_max_right n n')).1 f vs r' hn'
  rw [h1] at h2
  exact Option.some.inj h2
theorem EvI.det {f : Nat} {vs : List AV} {o : Own} {r r' : AV} {o1 o2 : Own} (h : EvI L f vs o r o1) (h' : EvI L f vs o r' o2) : r = r' ∧ o1 = o2 := by
  obtain ⟨n, hn⟩ := h
  obtain ⟨n', hn'⟩ := h'
  have h1 := (cl_le (L := L) (Nat.le_max_left n n')).2.1 f vs o _ hn
  have h2 := (cl_le (L := L) (Nat.le_max_right n n')).2.1 f vs o _ hn'
  rw [h1] at h2
  simpa using h2
/-- a run to the end -/
def AK (L : Lib) (k : List It) (st : St) (Q : St → Prop) : Prop := ∃ n c st', run (clAt L c) n k st = some st' ∧ Q st'
/-- the same from within a region -/
def AO (L : Lib) (l : List AI) (k : List It) (st : St) (Q : St → Prop) : Prop := ∃ n c st1 st', stepL (clAt L c) l st = some st1 ∧ run (clAt L c) n k st1 = some st' ∧ Q st'

variable {k : List It} {st : St} {Q : St → Prop}

theorem AK_step {it : It} {k' : List It} {st1 : St} (h : ∀ (C : Cl) (n : Nat), run C (n + 1) (it :: k) st = run C n k' st1) : AK L (it :: k) st Q ↔ AK L k' st1 Q := by
  constructor
  · rintro ⟨n, c, st', hr, hq⟩
    cases n with
    | zero => simp [run] at hr
    | succ n => exact ⟨n, c, st', by rw [← h]; exact hr, hq⟩
  · rintro ⟨n, c, st', hr, hq⟩
    exact ⟨n + 1, c, st', by rw [h]; exact hr, hq⟩

theorem AK_nil : AK L [] st Q ↔ Q st := by
  constructor
  · rintro ⟨n, c, st', hr, hq⟩
    cases n with
    | zero => simp [run] at hr
    | succ n => simp only [run, Option.some.injEq] at hr; exact hr ▸ hq
  · exact fun h => ⟨1, 0, st, rfl, h⟩
theorem AK_blk {id : Nat} : AK L (.blk id :: k) st Q ↔ AK L k st Q := AK_step fun _ _ => rfl
theorem AK_drp {ts ss : List Nat} : AK L (.drp ts ss :: k) st Q ↔ AK L k ⟨tdrop st.tm ts, st.own.drop ss⟩ Q := AK_step fun _ _ => rfl
theorem AK_lp {c : ACode} : AK L (.lp c :: k) st Q ↔ AK L (.code c :: .lp c :: k) st Q := AK_step fun _ _ => rfl
theorem AK_skip : AK L (.code .skip :: k) st Q ↔ AK L k st Q := AK_step fun _ _ => rfl
theorem AK_dr {c : ACode} {ts ss : List Nat} : AK L (.code (.dr c ts ss) :: k) st Q ↔ AK L (.code c :: .drp ts ss :: k) st Q := AK_step fun _ _ => rfl
theorem AK_scope {c : ACode} : AK L (.code (.scope c) :: k) st Q ↔ AK L (.code c :: k) st Q := AK_step fun _ _ => rfl
theorem AK_seq {a b : ACode} : AK L (.code (.seq a b) :: k) st Q ↔ AK L (.code a :: .code b :: k) st Q := AK_step fun _ _ => rfl
theorem AK_block {id : Nat} {c : ACode} : AK L (.code (.block id c) :: k) st Q ↔ AK L (.code c :: .blk id :: k) st Q := AK_step fun _ _ => rfl
theorem AK_loop {c : ACode} : AK L (.code (.loop c) :: k) st Q ↔ AK L (.code c :: .lp c :: k) st Q := AK_step fun _ _ => rfl
theorem AK_exit {id : Nat} {k' : List It} (h : exitA id k = some k') : AK L (.code (.exit id) :: k) st Q ↔ AK L k' st Q := AK_step fun C n => by simp [run, h]
theorem AK_ret : AK L (.code .ret :: k) st Q ↔ Q st := by
  constructor
  · rintro ⟨n, c, st', hr, hq⟩
    cases n with
    | zero => simp [run] at hr
    | succ n => simp only [run, Option.some.injEq] at hr; exact hr ▸ hq
  · exact fun h => ⟨1, 0, st, rfl, h⟩
theorem AK_cond {x : Opd} {a b : ACode} {t : Bool} (h : st.ev x = .bool t) : AK L (.code (.cond x a b) :: k) st Q ↔ if t = true then AK L (.code a :: k) st Q else AK L (.code b :: k) st Q := by
  cases t
  · simpa using AK_step (k' := .code b :: k) (st1 := st) fun C n => by simp [run, h]
  · simpa using AK_step (k' := .code a :: k) (st1 := st) fun C n => by simp [run, h]

theorem AK_ops {l : List AI} {d : Bool} : AK L (.code (.ops l d) :: k) st Q ↔ AO L l k st Q := by
  constructor
  · rintro ⟨n, c, st', hr, hq⟩
    cases n with
    | zero => simp [run] at hr
    | succ n =>
      simp only [run] at hr
      split at hr
      · rename_i st1 hs
        exact ⟨n, c, st1, st', hs, hr, hq⟩
      · cases hr
  · rintro ⟨n, c, st1, st', hs, hr, hq⟩
    exact ⟨n + 1, c, st', by simp [run, hs, hr], hq⟩

theorem AO_nil : AO L [] k st Q ↔ AK L k st Q := by
  constructor
  · rintro ⟨n, c, st1, st', hs, hr, hq⟩
    simp only [stepL, Option.some.injEq] at hs
    exact ⟨n, c, st', hs ▸ hr, hq⟩
  · rintro ⟨n, c, st', hr, hq⟩
    exact ⟨n, c, st, st', rfl, hr, hq⟩

theorem AO_step {o : AI} {l : List AI} {st1 : St} (h : ∀ C, stepI C o st = some st1) : AO L (o :: l) k st Q ↔ AO L l k st1 Q := by
  constructor
  · rintro ⟨n, c, st2, st', hs, hr, hq⟩
    simp only [stepL, h] at hs
    exact ⟨n, c, st2, st', hs, hr, hq⟩
  · rintro ⟨n, c, st2, st', hs, hr, hq⟩
    exact ⟨n, c, st2, st', by simpa only [stepL, h] using hs, hr, hq⟩

/-- not wanted -/
theorem AO_not {d : Option Nat} {op : AOp} {g : Option (Nat × Bool)} {ban : List Nat} {l : List AI} (h : guardA st g = some false) : AO L (⟨d, op, g, ban⟩ :: l) k st Q ↔ AO L l k (st.dst d (.tup [])) Q :=
  AO_step fun C => by simp [stepI, h]
theorem clAt_num (c : Nat) : (clAt L c).num = L.num := rfl
theorem AO_opL {d : Option Nat} {op : AOp} {g : Option (Nat × Bool)} {ban : List Nat} {l : List AI} {E : Eff} (h : guardA st g = some true) (he : ∀ c, eff (clAt L c) ban st.ev st.own op = some E) : AO L (⟨d, op, g, ban⟩ :: l) k st Q ↔ AO L l k (st.app d E) Q := by
  have h : ∀ c, stepI (clAt L c) ⟨d, op, g, ban⟩ st = some (st.app d E) := fun c => by simp [stepI, h, he]
  constructor
  · rintro ⟨n, c, st2, st', hs, hr, hq⟩
    simp only [stepL, h] at hs
    exact ⟨n, c, st2, st', hs, hr, hq⟩
  · rintro ⟨n, c, st2, st', hs, hr, hq⟩
    exact ⟨n, c, st2, st', by simpa only [stepL, h] using hs, hr, hq⟩
/-- a call that only reads -/
theorem AO_call {d : Option Nat} {f : Nat} {xs : List Opd} {g : Option (Nat × Bool)} {ban : List Nat} {l : List AI} {vs : List AV} {r : AV} (h : guardA st g = some true) (hv : (xs.map st.ev).mapM (snapA (st.own.hide ban) true) = some vs) (hr : Ev L f vs r) :
    AO L (⟨d, .call f xs, g, ban⟩ :: l) k st Q ↔ AO L l k (st.dst d r) Q := by
  have hst : ∀ c r', evP L c f vs = some r' → stepI (clAt L c) ⟨d, .call f xs, g, ban⟩ st = some (st.dst d r') := fun c r' hc => by
    have hc' : (clAt L c).pure f vs = some r' := hc
    simp [stepI, h, eff, hv, hc', St.app]
  constructor
  · rintro ⟨n, c, st2, st', hs, hrn, hq⟩
    simp only [stepL] at hs
    cases hI : stepI (clAt L c) ⟨d, .call f xs, g, ban⟩ st with
    | none => simp [hI] at hs
    | some st1 =>
      simp only [hI] at hs
      cases hp : evP L c f vs with
      | none =>
        have hc' : (clAt L c).pure f vs = none := hp
        simp [stepI, h, eff, hv, hc'] at hI
      | some r' =>
        obtain rfl : r' = r := Ev.det ⟨c, hp⟩ hr
        rw [hst c r' hp] at hI
        obtain rfl := Option.some.inj hI
        exact ⟨n, c, st2, st', hs, hrn, hq⟩
  · rintro ⟨n, c, st2, st', hs, hrn, hq⟩
    obtain ⟨c', hc'⟩ := hr
    have l1 := cl_le (L := L) (Nat.le_max_left c c')
    have l2 := cl_le (L := L) (Nat.le_max_right c c')
    refine ⟨n, max c c', st2, st', ?_, run_mono l1 (Nat.le_refl n) hrn, hq⟩
    simp only [stepL]
    rw [hst (max c c') r (l2.1 f vs r hc')]
    exact stepL_mono l1 hs
theorem AO_callp {d : Option Nat} {f : Nat} {x : Opd} {xs : List Opd} {g : Option (Nat × Bool)} {ban : List Nat} {l : List AI} {vs : List AV} {r : AV} (h : guardA st g = some true) (hx : st.ev x = .fn true f (L.num f) []) (hv : (xs.map st.ev).mapM (snapA st.own true) = some vs) (hr : Ev L f vs r) :
    AO L (⟨d, .callv x xs, g, ban⟩ :: l) k st Q ↔ AO L l k (st.dst d r) Q := by
  have hst : ∀ c r', evP L c f vs = some r' → stepI (clAt L c) ⟨d, .callv x xs, g, ban⟩ st = some (st.dst d r') := fun c r' hc => by
    have hc' : (clAt L c).pure f vs = some r' := hc
    simp [stepI, h, eff, hx, clAt_num, hv, hc', St.app]
  constructor
  · rintro ⟨n, c, st2, st', hs, hrn, hq⟩
    simp only [stepL] at hs
    cases hI : stepI (clAt L c) ⟨d, .callv x xs, g, ban⟩ st with
    | none => simp [hI] at hs
    | some st1 =>
      simp only [hI] at hs
      cases hp : evP L c f vs with
      | none =>
        have hc' : (clAt L c).pure f vs = none := hp
        simp [stepI, h, eff, hx, clAt_num, hv, hc'] at hI
      | some r' =>
        obtain rfl : r' = r := Ev.det ⟨c, hp⟩ hr
        rw [hst c r' hp] at hI
        obtain rfl := Option.some.inj hI
        exact ⟨n, c, st2, st', hs, hrn, hq⟩
  · rintro ⟨n, c, st2, st', hs, hrn, hq⟩
    obtain ⟨c', hc'⟩ := hr
    have l1 := cl_le (L := L) (Nat.le_max_left c c')
    have l2 := cl_le (L := L) (Nat.le_max_right c c')
    refine ⟨n, max c c', st2, st', ?_, run_mono l1 (Nat.le_refl n) hrn, hq⟩
    simp only [stepL]
    rw [hst (max c c') r (l2.1 f vs r hc')]
    exact stepL_mono l1 hs
theorem AO_callq {d : Option Nat} {f : Nat} {xs : List Opd} {g : Option (Nat × Bool)} {ban : List Nat} {l : List AI} {r : AV} (h : guardA st g = some true) (hq : (xs.map st.ev).all dq = true) (hr : Ev L f ((xs.map st.ev).map unl) r) (hfl : FlatR r) :
    AO L (⟨d, .callq f xs, g, ban⟩ :: l) k st Q ↔ AO L l k (st.dst d (lnd r)) Q := by
  have hst : ∀ c, evP L c f ((xs.map st.ev).map unl) = some r → stepI (clAt L c) ⟨d, .callq f xs, g, ban⟩ st = some (st.dst d (lnd r)) := fun c hc => by
    have hc' : (clAt L c).pure f ((xs.map st.ev).map unl) = some r := hc
    simp only [stepI, h, eff]
    rw [if_pos hq, hc']
    simp only [if_pos hfl, Option.map_some, St.app]
  constructor
  · rintro ⟨n, c, st2, st', hs, hrn, hq'⟩
    simp only [stepL] at hs
    cases hp : evP L c f ((xs.map st.ev).map unl) with
    | none =>
      have hc' : (clAt L c).pure f ((xs.map st.ev).map unl) = none := hp
      simp only [stepI, h, eff] at hs
      rw [if_pos hq, hc'] at hs
      simp at hs
    | some r' =>
      obtain rfl : r' = r := Ev.det ⟨c, hp⟩ hr
      rw [hst c hp] at hs
      exact ⟨n, c, st2, st', hs, hrn, hq'⟩
  · rintro ⟨n, c, st2, st', hs, hrn, hq'⟩
    obtain ⟨c', hc'⟩ := hr
    have l1 := cl_le (L := L) (Nat.le_max_left c c')
    have l2 := cl_le (L := L) (Nat.le_max_right c c')
    refine ⟨n, max c c', st2, st', ?_, run_mono l1 (Nat.le_refl n) hrn, hq'⟩
    simp only [stepL]
    rw [hst (max c c') (l2.1 f _ r hc')]
    exact stepL_mono l1 hs
theorem AO_callr {d : Option Nat} {s f : Nat} {xs : List Opd} {g : Option (Nat × Bool)} {ban : List Nat} {l : List AI} {vs : List AV} {z : Nat} {es : List (List AV)} (h : guardA st g = some true) (hv : (xs.map st.ev).mapM (snapA (st.own.hide ban) true) = some vs) (hr : EvR L f vs z es)
    (ha : AO L l k (st.app d (.new s ⟨z, es⟩ (fun t => .row s t z 0 es.length))) Q) : AO L (⟨d, .callr s f xs, g, ban⟩ :: l) k st Q := by
  obtain ⟨n, c, st2, st', hs, hrn, hq⟩ := ha
  obtain ⟨c', hc'⟩ := hr
  have l1 := cl_le (L := L) (Nat.le_max_left c c')
  have l2 := cl_le (L := L) (Nat.le_max_right c c')
  have hc2 : adoptR ((clAt L (max c c')).inn f vs Own.emp) = some (z, es) := adoptR_mono (l2.2.1 f vs Own.emp) hc'
  refine ⟨n, max c c', st2, st', ?_, run_mono l1 (Nat.le_refl n) hrn, hq⟩
  simp only [stepL]
  have : stepI (clAt L (max c c')) ⟨d, .callr s f xs, g, ban⟩ st = some (st.app d (.new s ⟨z, es⟩ (fun t => .row s t z 0 es.length))) := by
    simp only [stepI, h, eff, hv, hc2, Option.map_some]
  rw [this]
  exact stepL_mono l1 hs
/-- a call in the own memory -/
theorem AO_calli {d : Option Nat} {f : Nat} {xs : List Opd} {g : Option (Nat × Bool)} {ban : List Nat} {l : List AI} {r : AV} {o' : Own} (h : guardA st g = some true) (hr : EvI L f (xs.map st.ev) st.own r o') :
    AO L (⟨d, .calli f xs, g, ban⟩ :: l) k st Q ↔ AO L l k { (st.dst d r) with own := o' } Q := by
  have hst : ∀ c r' o1, evI L c f (xs.map st.ev) st.own = some (r', o1) → stepI (clAt L c) ⟨d, .calli f xs, g, ban⟩ st = some { (st.dst d r') with own := o1 } := fun c r' o1 hc => by
    have hc' : (clAt L c).inn f (xs.map st.ev) st.own = some (r', o1) := hc
    simp [stepI, h, eff, hc', St.app]
  constructor
  · rintro ⟨n, c, st2, st', hs, hrn, hq⟩
    simp only [stepL] at hs
    cases hI : stepI (clAt L c) ⟨d, .calli f xs, g, ban⟩ st with
    | none => simp [hI] at hs
    | some st1 =>
      simp only [hI] at hs
      cases hp : evI L c f (xs.map st.ev) st.own with
      | none =>
        have hc' : (clAt L c).inn f (xs.map st.ev) st.own = none := hp
        simp [stepI, h, eff, hc'] at hI
      | some x =>
        obtain ⟨r', o1⟩ := x
        obtain ⟨rfl, rfl⟩ := EvI.det ⟨c, hp⟩ hr
        rw [hst c r' o1 hp] at hI
        obtain rfl := Option.some.inj hI
        exact ⟨n, c, st2, st', hs, hrn, hq⟩
  · rintro ⟨n, c, st2, st', hs, hrn, hq⟩
    obtain ⟨c', hc'⟩ := hr
    have l1 := cl_le (L := L) (Nat.le_max_left c c')
    have l2 := cl_le (L := L) (Nat.le_max_right c c')
    refine ⟨n, max c c', st2, st', ?_, run_mono l1 (Nat.le_refl n) hrn, hq⟩
    simp only [stepL]
    rw [hst (max c c') r o' (l2.2.1 f _ _ _ hc')]
    exact stepL_mono l1 hs

/-- a call in the own memory -/
theorem AO_callv {d : Option Nat} {f : Nat} {cs : List AV} {x : Opd} {xs : List Opd} {g : Option (Nat × Bool)} {ban : List Nat} {l : List AI} {r : AV} {o' : Own} (h : guardA st g = some true) (hx : st.ev x = .fn false f (L.num f) cs) (hr : EvI L f (xs.map st.ev ++ cs) st.own r o') :
    AO L (⟨d, .callv x xs, g, ban⟩ :: l) k st Q ↔ AO L l k { (st.dst d r) with own := o' } Q := by
  have hst : ∀ c r' o1, evI L c f (xs.map st.ev ++ cs) st.own = some (r', o1) → stepI (clAt L c) ⟨d, .callv x xs, g, ban⟩ st = some { (st.dst d r') with own := o1 } := fun c r' o1 hc => by
    have hc' : (clAt L c).inn f (xs.map st.ev ++ cs) st.own = some (r', o1) := hc
    simp [stepI, h, eff, hx, clAt_num, hc', St.app]
  constructor
  · rintro ⟨n, c, st2, st', hs, hrn, hq⟩
    simp only [stepL] at hs
    cases hI : stepI (clAt L c) ⟨d, .callv x xs, g, ban⟩ st with
    | none => simp [hI] at hs
    | some st1 =>
      simp only [hI] at hs
      cases hp : evI L c f (xs.map st.ev ++ cs) st.own with
      | none =>
        have hc' : (clAt L c).inn f (xs.map st.ev ++ cs) st.own = none := hp
        simp [stepI, h, eff, hx, clAt_num, hc'] at hI
      | some x =>
        obtain ⟨r', o1⟩ := x
        obtain ⟨rfl, rfl⟩ := EvI.det ⟨c, hp⟩ hr
        rw [hst c r' o1 hp] at hI
        obtain rfl := Option.some.inj hI
        exact ⟨n, c, st2, st', hs, hrn, hq⟩
  · rintro ⟨n, c, st2, st', hs, hrn, hq⟩
    obtain ⟨c', hc'⟩ := hr
    have l1 := cl_le (L := L) (Nat.le_max_left c c')
    have l2 := cl_le (L := L) (Nat.le_max_right c c')
    refine ⟨n, max c c', st2, st', ?_, run_mono l1 (Nat.le_refl n) hrn, hq⟩
    simp only [stepL]
    rw [hst (max c c') r o' (l2.2.1 f _ _ _ hc')]
    exact stepL_mono l1 hs

theorem AK_mono {Q' : St → Prop} (h : AK L k st Q) (hq : ∀ s, Q s → Q' s) : AK L k st Q' := by
  obtain ⟨n, c, st', hr, hh⟩ := h
  exact ⟨n, c, st', hr, hq _ hh⟩

/-- a function, from its body -/
theorem EvI.intro {f : Nat} {fn : AFn} {vs : List AV} {o : Own} {r : AV} {o' : Own} (hL : L f = some fn) (hp : vs.length = fn.pars) (h : AK L [.code fn.body] ⟨initTm 0 vs, o⟩ (fun st => (fn.res.mapM (resOf st)).map resVal = some r ∧ st.own = o')) : EvI L f vs o r o' := by
  obtain ⟨n, c, st', hr, h1, h2⟩ := h
  refine ⟨max n c + 1, ?_⟩
  rw [evI_succ]
  simp only [hL, hp, if_true]
  rw [run_mono (cl_le (L := L) (Nat.le_max_right n c)) (Nat.le_max_left n c) hr]
  cases hm : fn.res.mapM (resOf st') with
  | none => rw [hm] at h1; cases h1
  | some rs =>
    rw [hm] at h1
    simp only [Option.map_some, Option.some.injEq] at h1
    simp [hm, h1, h2]
theorem EvD.intro {f : Nat} {fn : AFn} {vs : List AV} {r : AV} (hL : L f = some fn) (hp : vs.length = fn.pars) (h : AK L [.code fn.body] ⟨initTm 0 vs, Own.emp⟩ (fun st => ((fn.res.mapM (resOf st)).map resVal).bind (snapR st.own false) = some r ∧ Clean r)) : EvD L f vs r := by
  obtain ⟨n, c, st', hr, h1, h2⟩ := h
  cases hm : (fn.res.mapM (resOf st')).map resVal with
  | none => rw [hm] at h1; cases h1
  | some r0 =>
    rw [hm] at h1
    simp only [Option.bind_some] at h1
    obtain ⟨q, hq⟩ := EvI.intro (o := Own.emp) (r := r0) (o' := st'.own) hL hp ⟨n, c, st', hr, hm, rfl⟩
    refine ⟨q, ?_⟩
    unfold pureP
    simp [hq, h1, h2]
theorem EvD.ev {f : Nat} {fn : AFn} {vs : List AV} {r : AV} (hL : L f = some fn) (h : EvD L f vs r) (hs : fn.spl = false := by rfl) : Ev L f vs r := by
  obtain ⟨n, h⟩ := h
  have hs : L.spl f = false := by simp only [Lib.spl, hL, hs]
  exact ⟨n, by unfold evP pureS; rw [hs]; exact h⟩
theorem EvD.cons {f : Nat} {q : Bool} {e : List AV} {es : List (List AV)} {vs : List AV} {r : AV} (h : EvD L f (.sl q (e :: es) :: vs) r) : Ev L f (.sl q (e :: es) :: vs) r := by
  obtain ⟨n, h⟩ := h
  refine ⟨n, ?_⟩
  unfold evP pureS
  split
  · rename_i heq; simp at heq
  · exact h
theorem EvD.nil {f : Nat} {fn : AFn} {q : Bool} {vs : List AV} {r : AV} (hL : L f = some fn) (h1 : EvD L f (.con (.bool true) :: vs) r) (h2 : EvD L f (.con (.bool false) :: vs) r) (hs : fn.spl = true := by rfl) : Ev L f (.sl q [] :: vs) r := by
  obtain ⟨n, h1⟩ := h1
  obtain ⟨n', h2⟩ := h2
  have hs : L.spl f = true := by simp only [Lib.spl, hL, hs]
  have k1 := pureP_mono (fun vs r h => (cl_le (L := L) (Nat.le_max_left n n')).2.1 f vs Own.emp r h) h1
  have k2 := pureP_mono (fun vs r h => (cl_le (L := L) (Nat.le_max_right n n')).2.1 f vs Own.emp r h) h2
  refine ⟨max n n', ?_⟩
  unfold evP pureS
  rw [hs]
  simp only
  have k1' : pureP (fun vs => evI L (max n n') f vs Own.emp) (.con (.bool true) :: vs) = some r := k1
  have k2' : pureP (fun vs => evI L (max n n') f vs Own.emp) (.con (.bool false) :: vs) = some r := k2
  rw [k1', k2']
  simp
theorem Ev.intro {f : Nat} {fn : AFn} {vs : List AV} {r : AV} (hL : L f = some fn) (hp : vs.length = fn.pars) (h : AK L [.code fn.body] ⟨initTm 0 vs, Own.emp⟩ (fun st => ((fn.res.mapM (resOf st)).map resVal).bind (snapR st.own false) = some r ∧ Clean r)) (hs : fn.spl = false := by rfl) : Ev L f vs r :=
  (EvD.intro hL hp h).ev hL hs
end
end Go.Eng


/-
  Rules by which the abstract machine is run by rewriting: one for each kind of operation.
-/
namespace Go.Eng

section
variable {L : Lib} {k : List It} {tm : Tm} {own : Own} {Q : St → Prop} {l : List AI} {ban : List Nat} {d : Nat}

theorem tget_cons (i : Nat) (v : AV) (r : Tm) (j : Nat) : tget ((i, v) :: r) j = if j = i then v else tget r j := rfl
theorem tget_nil (j : Nat) : tget [] j = .any := rfl
theorem tdrop_cons (i : Nat) (v : AV) (r : Tm) (l : List Nat) : tdrop ((i, v) :: r) l = if l.contains i then tdrop r l else (i, v) :: tdrop r l := rfl
theorem tdrop_nil (l : List Nat) : tdrop [] l = [] := rfl
theorem initTm_cons (i : Nat) (v : AV) (r : List AV) : initTm i (v :: r) = (i, v) :: initTm (i + 1) r := rfl
end
end Go.Eng


/-
  The rules of the abstract machine, each as one step forward: its premisses are found by unfolding, comparisons are split at once.
-/
namespace Go.Eng

section
variable {L : Lib} {k : List It} {tm : Tm} {own : Own} {st : St} {Q : St → Prop} {l : List AI} {ban : List Nat} {d : Nat} {dst : Option Nat}

section
variable {x y : Opd} {kd : IntKind} {a b : Int}
end
/-- what a body must come to -/
def Res (fn : AFn) (r : AV) (st : St) : Prop := ((fn.res.mapM (resOf st)).map resVal).bind (snapR st.own false) = some r ∧ Clean r
theorem Ev.fwd {f : Nat} {fn : AFn} {vs : List AV} {r : AV} (hL : L f = some fn) (hp : vs.length = fn.pars) (h : AK L [.code fn.body] ⟨initTm 0 vs, Own.emp⟩ (Res fn r)) (hs : fn.spl = false := by rfl) : Ev L f vs r := Ev.intro hL hp h hs
theorem EvD.fwd {f : Nat} {fn : AFn} {vs : List AV} {r : AV} (hL : L f = some fn) (hp : vs.length = fn.pars) (h : AK L [.code fn.body] ⟨initTm 0 vs, Own.emp⟩ (Res fn r)) : EvD L f vs r := EvD.intro hL hp h
theorem Res.bool {fn : AFn} {st : St} (x : Bool) {r : AV} (h : ((fn.res.mapM (resOf st)).map resVal).bind (snapR st.own false) = some (.bool x)) (e : .bool x = r) : Res fn r st := by
  subst e; exact ⟨h, by simp [Clean]⟩
theorem Res.int {fn : AFn} {st : St} (kd : IntKind) (x : Int) {r : AV} (h : ((fn.res.mapM (resOf st)).map resVal).bind (snapR st.own false) = some (.int kd x)) (e : .int kd x = r) : Res fn r st := by
  subst e; exact ⟨h, by simp [Clean]⟩
end
attribute [irreducible] Res
end Go.Eng


/-
  Steps of arithmetic: powers of 2, shifts, masks, divisions.
-/
namespace Go.Eng

/-- 2^n -/
def pw (n : Int) : Int := 2 ^ n.toNat
theorem pw_pos (n : Int) : 1 ≤ pw n := by
  have : 0 < pw n := Int.pow_pos (by decide)
  omega
theorem pw_le {n m : Int} (h : n ≤ m) : pw n ≤ pw m := by
  unfold pw
  have h' : n.toNat ≤ m.toNat := by omega
  have h2 := Nat.pow_le_pow_right (n := 2) (by decide) h'
  have h3 : ((2 ^ n.toNat : Nat) : Int) ≤ ((2 ^ m.toNat : Nat) : Int) := by exact_mod_cast h2
  simpa using h3
theorem pw_le62 {n : Int} (h : n ≤ 62) : pw n ≤ 4611686018427387904 := pw_le (m := 62) h
theorem pw_succ {n : Int} (h : 1 ≤ n) : pw n = 2 * pw (n - 1) := by
  unfold pw
  have e : n.toNat = (n - 1).toNat + 1 := by omega
  rw [e, Int.pow_succ, Int.mul_comm]
theorem pw_zero : pw 0 = 1 := rfl

theorem wrap_pos {a : Int} (h : 0 ≤ a) (h' : a ≤ 9223372036854775807) : IntKind.i64.wrap a = a := IntWalk.i64_in _ ⟨by omega, h'⟩

theorem shl_one {k2 : IntKind} {n : Int} (h : 0 ≤ n ∧ n ≤ 62) : intBin .shl .i64 1 k2 n = some (.int .i64 (pw n)) := by
  have h1 := pw_le62 h.2
  have h2 := pw_pos n
  have e : (1 : Int) * 2 ^ (min n.toNat IntKind.i64.bits) = pw n := by
    have : min n.toNat IntKind.i64.bits = n.toNat := by simp only [IntKind.bits]; omega
    rw [this, Int.one_mul]; rfl
  simp only [intBin]
  rw [if_neg (by omega), e, wrap_pos (by omega) (by omega)]
theorem shr_div {k2 : IntKind} {a n : Int} (h : 0 ≤ n ∧ n ≤ 63) : intBin .shr .i64 a k2 n = some (.int .i64 (a / pw n)) := by
  have h2 := pw_pos n
  have e : (2 : Int) ^ (min n.toNat IntKind.i64.bits) = pw n := by
    have : min n.toNat IntKind.i64.bits = n.toNat := by simp only [IntKind.bits]; omega
    rw [this]; rfl
  simp only [intBin]
  rw [if_neg (by omega), e, Int.fdiv_eq_ediv_of_nonneg _ (by omega)]
theorem and_mask {a p n : Int} (hp : p = pw n) (h : 0 ≤ n ∧ n ≤ 62) : intBin .and .i64 a .i64 (p - 1) = some (.int .i64 (a % p)) := by
  have h1 := pw_le62 h.2
  have h2 := pw_pos n
  simp only [intBin, if_true]
  have hn : n.toNat ≤ 64 := by omega
  have e0 : pw n = ((2 ^ n.toNat : Nat) : Int) := by simp [pw]
  have e1 : (BitVec.ofInt IntKind.i64.bits (p - 1)).toNat = 2 ^ n.toNat - 1 := by
    have hq : (2 : Nat) ^ n.toNat ≤ 4611686018427387904 := by
      have : ((2 ^ n.toNat : Nat) : Int) ≤ 4611686018427387904 := by rw [← e0]; exact h1
      omega
    rw [BitVec.toNat_ofInt]
    simp only [IntKind.bits]
    rw [hp, e0]
    have hz : 1 ≤ 2 ^ n.toNat := Nat.one_le_two_pow
    omega
  have e2 : (BitVec.ofInt IntKind.i64.bits a).toNat = (a % 18446744073709551616).toNat := by
    rw [BitVec.toNat_ofInt]; rfl
  have e3 : ((a % 18446744073709551616).toNat % 2 ^ n.toNat : Nat) = (a % pw n).toNat := by
    have hd : (pw n) ∣ 18446744073709551616 := by
      refine ⟨2 ^ (64 - n.toNat), ?_⟩
      unfold pw
      rw [← Int.pow_add, show n.toNat + (64 - n.toNat) = 64 by omega]; rfl
    have h3 : (a % 18446744073709551616) % pw n = a % pw n := Int.emod_emod_of_dvd a hd
    have h4 : (((a % 18446744073709551616).toNat % 2 ^ n.toNat : Nat) : Int) = (a % 18446744073709551616) % pw n := by
      rw [Int.natCast_emod, ← e0, Int.toNat_of_nonneg (by omega)]
    have h5 : 0 ≤ a % pw n := Int.emod_nonneg _ (by omega)
    omega
  have h5 : 0 ≤ a % pw n := Int.emod_nonneg _ (by omega)
  have h6 : a % pw n < pw n := Int.emod_lt_of_pos _ (by omega)
  rw [BitVec.toNat_and, e1, Nat.and_two_pow_sub_one_eq_mod, e2, e3, hp, Int.toNat_of_nonneg h5, wrap_pos h5 (by omega)]
theorem and_one {a : Int} : intBin .and .i64 a .i64 1 = some (.int .i64 (a % 2)) := and_mask (p := 2) (n := 1) rfl ⟨by decide, by decide⟩
theorem tmod_pos {a m : Int} (hm : 0 < m) : a.tmod m = if 0 ≤ a ∨ a % m = 0 then a % m else a % m - m := by
  have h := Int.tmod_eq_emod (a := a) (b := m)
  rw [h]
  have hd : m ∣ a ↔ a % m = 0 := Int.dvd_iff_emod_eq_zero
  by_cases h0 : 0 ≤ a ∨ a % m = 0
  · rw [if_pos h0, if_pos (by rcases h0 with h0 | h0; exact Or.inl h0; exact Or.inr (hd.2 h0))]; omega
  · rw [if_neg h0, if_neg (fun h => h0 (h.imp id hd.1))]
    have : (m.natAbs : Int) = m := by omega
    omega
theorem tdiv_pos {a m : Int} (hm : 0 < m) : a.tdiv m = if 0 ≤ a ∨ a % m = 0 then a / m else a / m + 1 := by
  have h := Int.tdiv_eq_ediv (a := a) (b := m)
  rw [h]
  have hd : m ∣ a ↔ a % m = 0 := Int.dvd_iff_emod_eq_zero
  by_cases h0 : 0 ≤ a ∨ a % m = 0
  · rw [if_pos h0, if_pos (by rcases h0 with h0 | h0; exact Or.inl h0; exact Or.inr (hd.2 h0))]; omega
  · rw [if_neg h0, if_neg (fun h => h0 (h.imp id hd.1)), Int.sign_eq_one_of_pos hm]
theorem ediv_range {a m : Int} (hm : 1 ≤ m) (h : -9223372036854775808 ≤ a ∧ a ≤ 9223372036854775807) : -9223372036854775808 ≤ a / m ∧ a / m ≤ 9223372036854775807 := by
  constructor
  · rw [Int.le_ediv_iff_mul_le (by omega)]
    have := Int.mul_le_mul_of_nonpos_left (a := -9223372036854775808) (b := m) (c := 1) (by omega) hm
    omega
  · have : a / m < 9223372036854775808 := by
      rw [Int.ediv_lt_iff_lt_mul (by omega)]
      have := Int.mul_le_mul_of_nonneg_left (c := 9223372036854775808) (a := 1) (b := m) hm (by omega)
      omega
    omega
theorem ediv_half {a m : Int} (hm : 2 ≤ m) (h : -9223372036854775808 ≤ a ∧ a ≤ 9223372036854775807) : -4611686018427387904 ≤ a / m ∧ a / m ≤ 4611686018427387904 := by
  constructor
  · rw [Int.le_ediv_iff_mul_le (by omega)]
    have := Int.mul_le_mul_of_nonpos_left (a := -4611686018427387904) (b := m) (c := 2) (by omega) hm
    omega
  · have : a / m < 4611686018427387904 + 1 := by
      rw [Int.ediv_lt_iff_lt_mul (by omega)]
      have := Int.mul_le_mul_of_nonneg_left (c := 4611686018427387905) (a := 2) (b := m) hm (by omega)
      omega
    omega
/-- the bit below the point -/
theorem half_bit {v h : Int} (hh : 1 ≤ h) : (v / h) % 2 = if h ≤ v % (2 * h) then 1 else 0 := by
  have e : v / h = v % (2 * h) / h + 2 * (v / (2 * h)) := by
    conv => lhs; rw [← Int.emod_add_mul_ediv v (2 * h)]
    rw [show 2 * h * (v / (2 * h)) = h * (2 * (v / (2 * h))) by rw [Int.mul_comm 2 h, Int.mul_assoc], Int.add_mul_ediv_left _ _ (by omega)]
  have h0 : 0 ≤ v % (2 * h) := Int.emod_nonneg _ (by omega)
  have h1 : v % (2 * h) < 2 * h := Int.emod_lt_of_pos _ (by omega)
  rw [e]
  by_cases hc : h ≤ v % (2 * h)
  · have : v % (2 * h) / h = 1 := by
      have a1 : 1 ≤ v % (2 * h) / h := by rw [Int.le_ediv_iff_mul_le (by omega)]; omega
      have a2 : v % (2 * h) / h < 2 := by rw [Int.ediv_lt_iff_lt_mul (by omega)]; omega
      omega
    rw [if_pos hc, this]; omega
  · have : v % (2 * h) / h = 0 := Int.ediv_eq_zero_of_lt h0 (by omega)
    rw [if_neg hc, this]; omega

section
variable {L : Lib} {k : List It} {tm : Tm} {own : Own} {Q : St → Prop} {l : List AI} {ban : List Nat} {d : Nat} {x y : Opd} {a b n p : Int} {k2 : IntKind}
end
end Go.Eng


/-
  The table of temporaries may be written otherwise: only what is found in it counts.
-/
namespace Go.Eng

theorem tget_tdrop (ts : List Nat) (j : Nat) : ∀ tm : Tm, tget (tdrop tm ts) j = if ts.contains j then .any else tget tm j
  | [] => by simp [tdrop_nil, tget_nil]
  | (i, u) :: r => by
    rw [tdrop_cons]
    by_cases h : ts.contains i = true
    · rw [if_pos h, tget_tdrop ts j r, tget_cons]
      by_cases h2 : j = i
      · subst h2; rw [if_pos h, if_pos h]
      · rw [if_neg h2]
    · rw [if_neg h, tget_cons, tget_cons, tget_tdrop ts j r]
      by_cases h2 : j = i
      · subst h2; rw [if_pos rfl, if_pos rfl, if_neg h]
      · rw [if_neg h2, if_neg h2]

/-- the same for every look -/
def St.eqv (a b : St) : Prop := a.own = b.own ∧ ∀ j, tget a.tm j = tget b.tm j
theorem St.eqv.ev {a b : St} (h : a.eqv b) : a.ev = b.ev := by
  funext x; cases x with
  | t n => exact h.2 n
  | c v => rfl
theorem St.eqv.dst {a b : St} (h : a.eqv b) (d : Option Nat) (v : AV) : (a.dst d v).eqv (b.dst d v) := by
  cases d with
  | none => exact h
  | some d => exact ⟨h.1, fun j => by simp only [St.dst, tget_tput, h.2]⟩
theorem St.dst_own (a : St) (d : Option Nat) (v : AV) : (a.dst d v).own = a.own := by cases d <;> rfl
theorem St.eqv.app {a b : St} (h : a.eqv b) (d : Option Nat) (E : Eff) : (a.app d E).eqv (b.app d E) := by
  cases E with
  | val v => exact h.dst d v
  | new s c v => simp only [St.app, h.1]; exact ⟨rfl, (h.dst d _).2⟩
  | vir s c v => simp only [St.app, h.1]; exact ⟨rfl, (h.dst d _).2⟩
  | tur v o => exact ⟨rfl, (h.dst d v).2⟩
  | upd s x => simp only [St.app, h.1]; exact ⟨rfl, (h.dst d _).2⟩
theorem St.eqv.guard {a b : St} (h : a.eqv b) (g : Option (Nat × Bool)) : guardA a g = guardA b g := by
  cases g with
  | none => rfl
  | some g => simp only [guardA, h.2]
/-- a postcondition that does not see how the table is written -/
def clo (Q : St → Prop) (s : St) : Prop := ∃ s', s'.eqv s ∧ Q s'
theorem clo.intro {Q : St → Prop} {s : St} (h : Q s) : clo Q s := ⟨s, ⟨rfl, fun _ => rfl⟩, h⟩
/-- in the order of the names, each once, some left out -/
def memN (j : Nat) : List Nat → Bool
  | [] => false
  | i :: r => bif Nat.beq j i then true else memN j r
theorem Res.eqv {fn : AFn} {r : AV} {a b : St} (h : a.eqv b) (hr : Res fn r a) : Res fn r b := by
  have e : resOf a = resOf b := by
    funext x; cases x with
    | tmp t => simp only [resOf, h.2]
    | cell t agg n => simp only [resOf, h.2, h.1]
  unfold Res at hr ⊢
  rw [e, h.1] at hr
  exact hr
theorem Ev.go {L : Lib} {f : Nat} {fn : AFn} {vs : List AV} {r : AV} (hL : L f = some fn) (hp : vs.length = fn.pars) (h : AK L [.code fn.body] ⟨initTm 0 vs, Own.emp⟩ (clo (Res fn r))) (hs : fn.spl = false := by rfl) : Ev L f vs r :=
  Ev.fwd hL hp (AK_mono h fun s hs => by
    obtain ⟨s', he, hq⟩ := hs
    exact Res.eqv he hq) hs

/-! lists of encoded elements -/
abbrev encInt (n : Int) : List AV := [.int .i64 n]
section
variable {L : Lib} {k : List It} {tm : Tm} {own : Own} {Q : St → Prop} {l : List AI} {ban : List Nat} {d : Nat} {x i : Opd} {kd : IntKind} {a : Int} {q : Bool} {α : Type} {es : List α} {enc : α → List AV} {z : Nat}
end
end Go.Eng

