/-
  Functions of the program, as the abstract machine reads them (group RatG). Written by a program (gen.py) off the model's own reading of the translation; the seat's check ties them to it.
-/
import Derived.Test.YtdehnieflanifaaGreatB1
import Derived.Test.YtdehnieflanifaaGreatB3
import Derived.IntWalk
set_option linter.unusedSimpArgs false
set_option linter.unusedVariables false
set_option linter.unnecessarySimpa false
namespace Go.Eng.F
open C
namespace integer_signed
def r0 : List AI := [o 4 (.alloc 83004 [(.bool false), .nil])]
def r1 : List AI := [m 5 0, m 6 5, g 7 6 true (.mov 1), g 8 6 true (.len 7), g 9 6 true (.bin .gtr 8 (k 0)), o 10 (.pick 6 9 (.c (.bool false))), m 11 1,
 o 12 (.build [(.bool false), .nil] [(0, 1, 10), (1, 1, 11)]), n (.st 2 4 12)]
def c : ACode := (.seq (.ops r0 false) (.seq (.dr (.ops r1 false) [0,1,5,6,7,8,9,10,11,12] []) .ret))
end integer_signed
def integer_signed : AFn := ⟨2, integer_signed.c, [.cell 4 true 2], false⟩
namespace integer_Trim
def r0 : List AI := [o 1 (.box 1 0), o 2 (.alloc 2 [(.bool false), .nil])]
def r1 : List AI := [o 3 (.fadr 1 0), o 4 (.ld false 1 3), o 5 (.fadr 1 1), o 6 (.ld false 1 5), o 7 (.call 66 [6]), o 8 (.calli 83 [4, 7]), n (.st 2 2 8)]
def c : ACode := (.seq (.dr (.ops r0 false) [0] []) (.seq (.dr (.ops r1 true) [1,3,4,5,6,7,8] []) .ret))
end integer_Trim
def integer_Trim : AFn := ⟨1, integer_Trim.c, [.cell 2 true 2], false⟩
namespace integer_Of
def r0 : List AI := [o 2 (.alloc 2 [(.bool false), .nil])]
def r1 : List AI := [m 4 0, o 5 (.conv .u64 4), m 3 5]
def r2 : List AI := [m 6 0, o 7 (.bin .lss 6 (k 0))]
def r3 : List AI := [m 8 3, o 9 (.un .neg 8), m 3 9]
def r4 : List AI := [m 10 0, o 11 (.bin .lss 10 (k 0)), m 12 3, o 13 (.conv .u32 12), m 14 3, o 15 (.bin .shr 14 (.c (.int .u64 (32)))), o 16 (.conv .u32 15),
 o 17 (.bslice 17 1 [13, 16]), o 18 (.call 66 [17]), o 19 (.calli 83 [11, 18]), n (.st 2 2 19)]
def c : ACode := (.seq (.ops r0 false) (.seq (.dr (.ops r1 false) [4,5] []) (.seq (.seq (.dr (.ops r2 false) [6] []) (.cond 7 (.dr (.ops r3 false) [7,8,9] []) .skip)) (.seq (.dr (.ops r4 false) [0,3,7,10,11,12,13,14,15,16,17,18,19] []) .ret))))
end integer_Of
def integer_Of : AFn := ⟨1, integer_Of.c, [.cell 2 true 2], false⟩
namespace integer_Sign
def r0 : List AI := [o 1 (.box 1 0), o 2 (.mov (k 0))]
def r1 : List AI := [o 4 (.fadr 1 1), o 5 (.ld false 1 4), o 6 (.call 67 [5, (.c .nil)]), o 7 (.bin .eql 6 (k 0)), m 3 7]
def r2 : List AI := [o 2 (.mov (k 0))]
def r3 : List AI := [o 9 (.fadr 1 0), o 10 (.ld false 1 9), m 8 10]
def r4 : List AI := [o 2 (.mov (k (-1)))]
def r5 : List AI := [o 2 (.mov (k 1))]
def c : ACode := (.seq (.dr (.ops r0 false) [0,2] []) (.seq (.block 0 (.seq (.dr (.ops r1 false) [4,5,6,7] []) (.cond 3 (.seq (.dr (.ops r2 false) [1,3] []) .ret) (.seq (.dr (.ops r3 false) [1,3,9,10] []) (.cond 8 (.seq (.dr (.ops r4 false) [8] []) .ret) .skip))))) (.seq (.dr (.ops r5 false) [8] []) .ret)))
end integer_Sign
def integer_Sign : AFn := ⟨1, integer_Sign.c, [.tmp 2], false⟩
namespace rational_read
def r0 : List AI := [o 1 (.box 1 0), o 2 (.alloc 2 [(.bool false), .nil, .nil, (.bool false)])]
def r1 : List AI := [o 3 (.fadr 1 2), o 4 (.ld false 1 3), o 5 (.len 4), o 6 (.bin .eql 5 (k 1)), m 7 6, g 8 7 true (.fadr 1 2), g 9 7 true (.ld false 1 8),
 g 10 7 true (.iadr none 1 9 (k 0)), g 11 7 true (.ld false 1 10), g 12 7 true (.bin .eql 11 (.c (.int .u32 (1)))), o 13 (.pick 7 12 (.c (.bool false)))]
def r2 : List AI := [o 14 (.fadr 1 0), o 15 (.ld true 2 14), o 16 (.fadr 1 2), o 17 (.ld false 1 16), o 18 (.build [(.bool false), .nil, .nil] [(0, 2, 15), (2, 1, 17)]),
 o 19 (.build [(.bool false), .nil, .nil, (.bool false)] [(0, 3, 18), (3, 1, (.c (.bool true)))]), n (.st 4 2 19)]
def r3 : List AI := [o 20 (.fadr 1 2), o 21 (.ld false 1 20), o 22 (.call 67 [21, (.c .nil)]), o 23 (.bin .eql 22 (k 0))]
def r4 : List AI := [o 24 (.build [(.bool false), .nil] []), o 25 (.bslice 25 1 [(.c (.int .u32 (1)))]), o 26 (.build [(.bool false), .nil, .nil] [(0, 2, 24), (2, 1, 25)]),
 o 27 (.build [(.bool false), .nil, .nil, (.bool false)] [(0, 3, 26), (3, 1, (.c (.bool true)))]), n (.st 4 2 27)]
def r5 : List AI := [o 28 (.fadr 1 0), o 29 (.ld true 2 28), o 30 (.fadr 1 2), o 31 (.ld false 1 30), o 32 (.build [(.bool false), .nil, .nil] [(0, 2, 29), (2, 1, 31)]),
 o 33 (.build [(.bool false), .nil, .nil, (.bool false)] [(0, 3, 32), (3, 1, (.c (.bool false)))]), n (.st 4 2 33)]
def c : ACode := (.seq (.dr (.ops r0 false) [0] []) (.seq (.seq (.dr (.ops r1 false) [3,4,5,6,7,8,9,10,11,12] []) (.cond 13 (.seq (.dr (.ops r2 false) [1,13,14,15,16,17,18,19] []) .ret) .skip)) (.seq (.seq (.dr (.ops r3 false) [13,20,21,22] []) (.cond 23 (.seq (.dr (.ops r4 false) [1,23,24,25,26,27] []) .ret) .skip)) (.seq (.dr (.ops r5 false) [1,23,28,29,30,31,32,33] []) .ret))))
end rational_read
def rational_read : AFn := ⟨1, rational_read.c, [.cell 2 true 4], false⟩
namespace rational_isOne
def r0 : List AI := [o 2 (.mov (.c (.bool false)))]
def r1 : List AI := [m 3 0, o 4 (.len 3), o 5 (.bin .eql 4 (k 1)), m 6 5, g 7 6 true (.mov 0), g 8 6 true (.iadr none 1 7 (k 0)), g 9 6 true (.ld false 1 8),
 g 10 6 true (.bin .eql 9 (.c (.int .u32 (1)))), o 11 (.pick 6 10 (.c (.bool false))), m 2 11]
def c : ACode := (.seq (.dr (.ops r0 false) [2] []) (.seq (.dr (.ops r1 false) [0,3,4,5,6,7,8,9,10,11] []) .ret))
end rational_isOne
def rational_isOne : AFn := ⟨1, rational_isOne.c, [.tmp 2], false⟩
namespace rational_whole
def r0 : List AI := [o 1 (.box 92001 0), o 2 (.alloc 92002 [(.bool false), .nil, .nil])]
def r1 : List AI := [o 3 (.ld true 2 1), o 4 (.bslice 92004 1 [(.c (.int .u32 (1)))]), o 5 (.build [(.bool false), .nil, .nil] [(0, 2, 3), (2, 1, 4)]), n (.st 3 2 5)]
def c : ACode := (.seq (.dr (.ops r0 false) [0] []) (.seq (.dr (.ops r1 false) [1,3,4,5] []) .ret))
end rational_whole
def rational_whole : AFn := ⟨1, rational_whole.c, [.cell 2 true 3], false⟩
namespace rational_quotient
def r0 : List AI := [o 2 (.box 93002 0), o 3 (.box 93003 1), o 4 (.alloc 93004 [(.bool false), .nil, .nil])]
def r1 : List AI := [o 5 (.fadr 2 0), o 6 (.ld false 1 5), o 7 (.fadr 3 0), o 8 (.ld false 1 7), o 9 (.beq true 6 8), o 10 (.fadr 2 1), o 11 (.ld false 1 10),
 o 12 (.build [(.bool false), .nil] [(0, 1, 9), (1, 1, 11)]), o 13 (.fadr 3 1), o 14 (.ld false 1 13),
 o 15 (.build [(.bool false), .nil, .nil] [(0, 2, 12), (2, 1, 14)]), n (.st 3 4 15)]
def c : ACode := (.seq (.dr (.ops r0 false) [0,1] []) (.seq (.dr (.ops r1 false) [2,3,5,6,7,8,9,10,11,12,13,14,15] []) .ret))
end rational_quotient
def rational_quotient : AFn := ⟨2, rational_quotient.c, [.cell 4 true 3], false⟩
namespace rational_pair_lowest
def r0 : List AI := [o 1 (.box 1 0), o 2 (.alloc 2 [(.bool false), .nil, .nil])]
def r1 : List AI := [o 14 (.fadr 1 0), o 15 (.fadr 14 1), o 16 (.ld false 1 15), o 17 (.fadr 1 2), o 18 (.ld false 1 17), o 19 (.call 75 [16, 18]), m 13 19, o 20 (.ext 13 0),
 o 21 (.ext 13 1), o 22 (.ext 13 2), m 3 20, m 4 21, m 5 22]
def r2 : List AI := [m 23 4, o 24 (.len 23), o 25 (.bin .eql 24 (k 0))]
def r3 : List AI := [o 26 (.fadr 1 0), o 27 (.fadr 26 0), o 28 (.ld false 1 27), m 29 3, o 30 (.build [(.bool false), .nil] [(0, 1, 28), (1, 1, 29)]), o 31 (.call 84 [30]),
 o 32 (.calli 92 [31]), n (.st 3 2 32)]
def r4 : List AI := [o 33 (.fadr 1 2), o 34 (.ld false 1 33), m 35 4, o 36 (.call 82 [34, 35]), m 6 36]
def r5 : List AI := [m 37 6, o 38 (.call 90 [37])]
def r6 : List AI := [o 39 (.fadr 1 0), o 40 (.ld true 2 39), o 41 (.call 84 [40]), o 42 (.fadr 1 2), o 43 (.ld false 1 42), o 44 (.call 66 [43]),
 o 45 (.build [(.bool false), .nil, .nil] [(0, 2, 41), (2, 1, 44)]), n (.st 3 2 45)]
def r7 : List AI := [o 47 (.fadr 1 0), o 48 (.fadr 47 1), o 49 (.ld false 1 48), m 50 6, o 51 (.call 75 [49, 50]), m 46 51, o 52 (.ext 46 0), o 53 (.ext 46 1), o 54 (.ext 46 2),
 m 7 52, m 8 53, m 9 54]
def r8 : List AI := [o 56 (.fadr 1 2), o 57 (.ld false 1 56), m 58 6, o 59 (.call 75 [57, 58]), m 55 59, o 60 (.ext 55 0), o 61 (.ext 55 1), o 62 (.ext 55 2), m 10 60, m 11 61,
 m 12 62]
def r9 : List AI := [o 63 (.fadr 1 0), o 64 (.fadr 63 0), o 65 (.ld false 1 64), m 66 7, o 67 (.build [(.bool false), .nil] [(0, 1, 65), (1, 1, 66)]), m 68 10,
 o 69 (.build [(.bool false), .nil, .nil] [(0, 2, 67), (2, 1, 68)]), n (.st 3 2 69)]
def c : ACode := (.seq (.dr (.ops r0 false) [0] []) (.seq (.dr (.ops r1 false) [5,13,14,15,16,17,18,19,20,21,22] []) (.seq (.seq (.dr (.ops r2 false) [23,24] []) (.cond 25 (.seq (.dr (.ops r3 false) [1,3,4,25,26,27,28,29,30,31,32] []) .ret) .skip)) (.seq (.dr (.ops r4 false) [3,4,25,33,34,35,36] []) (.seq (.seq (.dr (.ops r5 false) [37] []) (.cond 38 (.seq (.dr (.ops r6 true) [1,6,38,39,40,41,42,43,44,45] []) .ret) .skip)) (.seq (.dr (.ops r7 false) [8,9,38,46,47,48,49,50,51,52,53,54] []) (.seq (.dr (.ops r8 false) [6,11,12,55,56,57,58,59,60,61,62] []) (.seq (.dr (.ops r9 false) [1,7,10,63,64,65,66,67,68,69] []) .ret))))))))
end rational_pair_lowest
def rational_pair_lowest : AFn := ⟨1, rational_pair_lowest.c, [.cell 2 true 3], false⟩
namespace rational_Trim
def r0 : List AI := [o 1 (.box 1 0), o 2 (.alloc 2 [(.bool false), .nil, .nil])]
def r1 : List AI := [o 3 (.ld true 3 1), o 4 (.callq 89 [3]), o 5 (.fld 4 0 3 true), o 6 (.call 94 [5]), n (.st 3 2 6)]
def c : ACode := (.seq (.dr (.ops r0 false) [0] []) (.seq (.dr (.ops r1 false) [1,3,4,5,6] []) .ret))
end rational_Trim
def rational_Trim : AFn := ⟨1, rational_Trim.c, [.cell 2 true 3], false⟩
namespace rational_Of
def r0 : List AI := [o 2 (.alloc 2 [(.bool false), .nil, .nil])]
def r1 : List AI := [m 3 0, o 4 (.call 85 [3]), o 5 (.calli 92 [4]), n (.st 3 2 5)]
def c : ACode := (.seq (.ops r0 false) (.seq (.dr (.ops r1 false) [0,3,4,5] []) .ret))
end rational_Of
def rational_Of : AFn := ⟨1, rational_Of.c, [.cell 2 true 3], false⟩
namespace rational_Sign
def r0 : List AI := [o 1 (.box 1 0), o 2 (.mov (k 0))]
def r1 : List AI := [o 3 (.ld true 3 1), o 4 (.callq 89 [3]), o 5 (.fld 4 0 3 true), o 6 (.fld 5 0 2 true), o 7 (.call 86 [6]), m 2 7]
def c : ACode := (.seq (.dr (.ops r0 false) [0,2] []) (.seq (.dr (.ops r1 false) [1,3,4,5,6,7] []) .ret))
end rational_Sign
def rational_Sign : AFn := ⟨1, rational_Sign.c, [.tmp 2], false⟩
structure RatGLib (L : Lib) : Prop extends NatGLib L where
 integer_signed : L 83 = some F.integer_signed
 integer_Trim : L 84 = some F.integer_Trim
 integer_Of : L 85 = some F.integer_Of
 integer_Sign : L 86 = some F.integer_Sign
 rational_read : L 89 = some F.rational_read
 rational_isOne : L 90 = some F.rational_isOne
 rational_whole : L 92 = some F.rational_whole
 rational_quotient : L 93 = some F.rational_quotient
 rational_pair_lowest : L 94 = some F.rational_pair_lowest
 rational_Trim : L 95 = some F.rational_Trim
 rational_Of : L 96 = some F.rational_Of
 rational_Sign : L 97 = some F.rational_Sign
end Go.Eng.F
namespace Go.Eng.F
open C
namespace ref01_Trim
def r0 : List AI := [o 2 (.mov (.c .nil))]
def r1 : List AI := [m 4 0, o 5 (.len 4), m 3 5]
def r2 : List AI := [m 6 3, o 7 (.bin .gtr 6 (k 0)), m 8 7, g 9 8 true (.mov 0), g 10 8 true (.mov 3), g 11 8 true (.bin .sub 10 (k 1)), g 12 8 true (.iadr none 1 9 11),
 g 13 8 true (.ld false 1 12), g 14 8 true (.bin .eql 13 (.c (.int .u32 (0)))), o 15 (.pick 8 14 (.c (.bool false)))]
def r3 : List AI := [m 16 3, o 17 (.bin .sub 16 (k 1)), m 3 17]
def r4 : List AI := [m 18 0, m 19 3, o 20 (.slc 1 18 none (some 19)), o 21 (.app 101021 1 4 (.c .nil) 20), m 2 21]
def l1 : ACode := (.seq (.seq (.dr (.ops r2 false) [6,7,8,9,10,11,12,13,14] []) (.cond 15 .skip (.exit 0))) (.block 1 (.dr (.ops r3 false) [15,16,17] [])))
def c : ACode := (.seq (.dr (.ops r0 false) [2] []) (.seq (.dr (.ops r1 false) [4,5] []) (.seq (.block 0 (.loop l1)) (.seq (.dr (.ops r4 false) [0,3,15,18,19,20,21] []) .ret))))
end ref01_Trim
def ref01_Trim : AFn := ⟨1, ref01_Trim.c, [.tmp 2], false⟩
namespace ref01_Compare
def r0 : List AI := [o 4 (.mov (k 0))]
def r1 : List AI := [m 6 0, o 7 (.call 101 [6]), m 8 1, o 9 (.call 101 [8]), m 0 7, m 1 9]
def r2 : List AI := [m 10 0, o 11 (.len 10), m 12 1, o 13 (.len 12), o 14 (.bin .neq 11 13)]
def r3 : List AI := [m 15 0, o 16 (.len 15), m 17 1, o 18 (.len 17), o 19 (.bin .lss 16 18)]
def r4 : List AI := [o 4 (.mov (k (-1)))]
def r5 : List AI := [o 4 (.mov (k 1))]
def r6 : List AI := [m 20 0, o 21 (.len 20), o 22 (.bin .sub 21 (k 1)), m 5 22]
def r7 : List AI := [m 23 5, o 24 (.bin .geq 23 (k 0))]
def r9 : List AI := [m 27 0, m 28 5, o 29 (.iadr none 1 27 28), o 30 (.ld false 1 29), m 31 1, m 32 5, o 33 (.iadr none 1 31 32), o 34 (.ld false 1 33), o 35 (.bin .lss 30 34)]
def r10 : List AI := [o 4 (.mov (k (-1)))]
def r11 : List AI := [m 36 0, m 37 5, o 38 (.iadr none 1 36 37), o 39 (.ld false 1 38), m 40 1, m 41 5, o 42 (.iadr none 1 40 41), o 43 (.ld false 1 42), o 44 (.bin .gtr 39 43)]
def r12 : List AI := [o 4 (.mov (k 1))]
def r8 : List AI := [m 25 5, o 26 (.bin .sub 25 (k 1)), m 5 26]
def r13 : List AI := [o 4 (.mov (k 0))]
def l1 : ACode := (.seq (.seq (.dr (.ops r7 false) [23] []) (.cond 24 .skip (.exit 0))) (.seq (.block 1 (.seq (.seq (.dr (.ops r9 true) [24,27,28,29,30,31,32,33,34] []) (.cond 35 (.seq (.dr (.ops r10 false) [0,1,5,35] []) .ret) .skip)) (.seq (.dr (.ops r11 true) [35,36,37,38,39,40,41,42,43] []) (.cond 44 (.seq (.dr (.ops r12 false) [0,1,5,44] []) .ret) .skip)))) (.dr (.ops r8 false) [25,26,44] [])))
def c : ACode := (.seq (.dr (.ops r0 false) [4] []) (.seq (.dr (.ops r1 false) [6,7,8,9] []) (.seq (.seq (.dr (.ops r2 false) [10,11,12,13] []) (.cond 14 (.seq (.seq (.dr (.ops r3 false) [0,1,14,15,16,17,18] []) (.cond 19 (.seq (.dr (.ops r4 false) [19] []) .ret) .skip)) (.seq (.dr (.ops r5 false) [19] []) .ret)) .skip)) (.seq (.seq (.dr (.ops r6 false) [14,20,21,22] []) (.block 0 (.loop l1))) (.seq (.dr (.ops r13 false) [0,1,5,24] []) .ret)))))
end ref01_Compare
def ref01_Compare : AFn := ⟨2, ref01_Compare.c, [.tmp 4], false⟩
namespace ref01_Add
def r0 : List AI := [o 4 (.mov (.c .nil))]
def r1 : List AI := [o 5 (.vrow 5 1)]
def r2 : List AI := [o 6 (.mov (.c (.int .u64 (0))))]
def r3 : List AI := [o 7 (.mov (k 0))]
def r4 : List AI := [m 8 7, m 9 0, o 10 (.len 9), o 11 (.bin .lss 8 10), m 12 11, g 13 12 false (.mov 7), g 14 12 false (.mov 1), g 15 12 false (.len 14),
 g 16 12 false (.bin .lss 13 15), o 17 (.pick 12 (.c (.bool true)) 16)]
def r6 : List AI := [m 20 7, m 21 0, o 22 (.len 21), o 23 (.bin .lss 20 22)]
def r7 : List AI := [m 24 6, m 25 0, m 26 7, o 27 (.iadr none 1 25 26), o 28 (.ld false 1 27), o 29 (.conv .u64 28), o 30 (.bin .add 24 29), m 6 30]
def r8 : List AI := [m 31 7, m 32 1, o 33 (.len 32), o 34 (.bin .lss 31 33)]
def r9 : List AI := [m 35 6, m 36 1, m 37 7, o 38 (.iadr none 1 36 37), o 39 (.ld false 1 38), o 40 (.conv .u64 39), o 41 (.bin .add 35 40), m 6 41]
def r10 : List AI := [m 42 5, m 43 6, o 44 (.conv .u32 43), o 45 (.bslice 45 1 [44]), o 46 (.app 46 1 4 42 45), m 5 46]
def r11 : List AI := [m 47 6, o 48 (.bin .shr 47 (.c (.int .u64 (32)))), m 6 48]
def r5 : List AI := [m 18 7, o 19 (.bin .add 18 (k 1)), m 7 19]
def r12 : List AI := [m 49 5, m 50 6, o 51 (.conv .u32 50), o 52 (.bslice 52 1 [51]), o 53 (.app 53 1 4 49 52), o 54 (.call 101 [53]), m 4 54]
def l1 : ACode := (.seq (.seq (.dr (.ops r4 false) [8,9,10,11,12,13,14,15,16] []) (.cond 17 .skip (.exit 0))) (.seq (.block 1 (.seq (.seq (.dr (.ops r6 false) [17,20,21,22] []) (.cond 23 (.dr (.ops r7 false) [23,24,25,26,27,28,29,30] []) .skip)) (.seq (.seq (.dr (.ops r8 false) [23,31,32,33] []) (.cond 34 (.dr (.ops r9 false) [34,35,36,37,38,39,40,41] []) .skip)) (.seq (.dr (.ops r10 false) [34,42,43,44,45,46] []) (.dr (.ops r11 false) [47,48] []))))) (.dr (.ops r5 false) [18,19] [])))
def c : ACode := (.seq (.dr (.ops r0 false) [4] []) (.seq (.ops r1 false) (.seq (.ops r2 false) (.seq (.seq (.ops r3 false) (.block 0 (.loop l1))) (.seq (.dr (.ops r12 false) [0,1,5,6,7,17,49,50,51,52,53,54] []) .ret)))))
end ref01_Add
def ref01_Add : AFn := ⟨2, ref01_Add.c, [.tmp 4], false⟩
namespace ref01_Sub
def r0 : List AI := [o 4 (.mov (.c .nil))]
def r1 : List AI := [m 10 0, m 11 1, o 12 (.call 102 [10, 11]), o 13 (.bin .lss 12 (k 0))]
def r2 : List AI := [o 4 (.mov (.c .nil))]
def r3 : List AI := [m 14 1, o 15 (.call 101 [14]), m 1 15]
def r4 : List AI := [m 16 0, o 17 (.calli 101 [16]), m 5 17]
def r5 : List AI := [o 6 (.mov (.c (.int .u64 (0))))]
def r6 : List AI := [o 7 (.mov (k 0))]
def r7 : List AI := [m 18 7, m 19 5, o 20 (.len 19), o 21 (.bin .lss 18 20)]
def r9 : List AI := [m 24 6, m 8 24]
def r10 : List AI := [m 25 7, m 26 1, o 27 (.len 26), o 28 (.bin .lss 25 27)]
def r11 : List AI := [m 29 8, m 30 1, m 31 7, o 32 (.iadr none 1 30 31), o 33 (.ld false 1 32), o 34 (.conv .u64 33), o 35 (.bin .add 29 34), m 8 35]
def r12 : List AI := [m 36 5, m 37 7, o 38 (.iadr none 1 36 37), o 39 (.ld false 1 38), o 40 (.conv .u64 39), m 9 40]
def r13 : List AI := [o 6 (.mov (.c (.int .u64 (0))))]
def r14 : List AI := [m 41 9, m 42 8, o 43 (.bin .lss 41 42)]
def r15 : List AI := [m 44 9, o 45 (.bin .add 44 (.c (.int .u64 (4294967296)))), m 9 45]
def r16 : List AI := [o 6 (.mov (.c (.int .u64 (1))))]
def r17 : List AI := [m 46 5, m 47 7, m 48 9, m 49 8, o 50 (.bin .sub 48 49), o 51 (.conv .u32 50), o 52 (.iadr none 1 46 47), n (.st 1 52 51)]
def r8 : List AI := [m 22 7, o 23 (.bin .add 22 (k 1)), m 7 23]
def r18 : List AI := [m 53 5, o 54 (.call 101 [53]), m 4 54]
def l1 : ACode := (.seq (.seq (.dr (.ops r7 false) [18,19,20] []) (.cond 21 .skip (.exit 0))) (.seq (.block 1 (.seq (.dr (.ops r9 false) [6,21,24] []) (.seq (.seq (.dr (.ops r10 false) [25,26,27] []) (.cond 28 (.dr (.ops r11 false) [28,29,30,31,32,33,34,35] []) .skip)) (.seq (.dr (.ops r12 false) [28,36,37,38,39,40] []) (.seq (.ops r13 false) (.seq (.seq (.dr (.ops r14 false) [41,42] []) (.cond 43 (.seq (.dr (.ops r15 false) [6,43,44,45] []) (.ops r16 false)) .skip)) (.dr (.ops r17 false) [8,9,43,46,47,48,49,50,51,52] []))))))) (.dr (.ops r8 false) [22,23] [])))
def c : ACode := (.seq (.dr (.ops r0 false) [4] []) (.seq (.seq (.dr (.ops r1 false) [10,11,12] []) (.cond 13 (.seq (.dr (.ops r2 false) [0,1,13] []) .ret) .skip)) (.seq (.dr (.ops r3 false) [13,14,15] []) (.seq (.dr (.ops r4 false) [0,16,17] []) (.seq (.ops r5 false) (.seq (.seq (.ops r6 false) (.block 0 (.loop l1))) (.seq (.dr (.ops r18 false) [1,5,6,7,21,53,54] []) .ret)))))))
end ref01_Sub
def ref01_Sub : AFn := ⟨2, ref01_Sub.c, [.tmp 4], false⟩
namespace ref01_BitLen
def r0 : List AI := [o 2 (.mov (k 0))]
def r1 : List AI := [m 5 0, o 6 (.call 101 [5]), m 0 6]
def r2 : List AI := [m 7 0, o 8 (.len 7), o 9 (.bin .eql 8 (k 0))]
def r3 : List AI := [o 2 (.mov (k 0))]
def r4 : List AI := [m 10 0, o 11 (.len 10), o 12 (.bin .sub 11 (k 1)), o 13 (.bin .mul (k 32) 12), m 3 13]
def r5 : List AI := [m 14 0, m 15 0, o 16 (.len 15), o 17 (.bin .sub 16 (k 1)), o 18 (.iadr none 1 14 17), o 19 (.ld false 1 18), m 4 19]
def r6 : List AI := [m 20 4, o 21 (.bin .gtr 20 (.c (.int .u32 (0))))]
def r8 : List AI := [m 24 3, o 25 (.bin .add 24 (k 1)), m 3 25]
def r7 : List AI := [m 22 4, o 23 (.bin .shr 22 (.c (.int .u64 (1)))), m 4 23]
def r9 : List AI := [m 26 3, m 2 26]
def l1 : ACode := (.seq (.seq (.dr (.ops r6 false) [20] []) (.cond 21 .skip (.exit 0))) (.seq (.block 1 (.dr (.ops r8 false) [21,24,25] [])) (.dr (.ops r7 false) [22,23] [])))
def c : ACode := (.seq (.dr (.ops r0 false) [2] []) (.seq (.dr (.ops r1 false) [5,6] []) (.seq (.seq (.dr (.ops r2 false) [7,8] []) (.cond 9 (.seq (.dr (.ops r3 false) [0,9] []) .ret) .skip)) (.seq (.dr (.ops r4 false) [9,10,11,12,13] []) (.seq (.seq (.dr (.ops r5 false) [0,14,15,16,17,18,19] []) (.block 0 (.loop l1))) (.seq (.dr (.ops r9 false) [3,4,21,26] []) .ret))))))
end ref01_BitLen
def ref01_BitLen : AFn := ⟨1, ref01_BitLen.c, [.tmp 2], false⟩
namespace ref01_Shift
def r0 : List AI := [o 4 (.mov (.c .nil))]
def r1 : List AI := [m 11 0, o 12 (.call 101 [11]), m 0 12]
def r2 : List AI := [m 13 1, o 14 (.bin .gtr 13 (k 65536)), m 15 14, g 16 15 false (.mov 0), g 17 15 false (.len 16), g 18 15 false (.bin .eql 17 (k 0)),
 o 19 (.pick 15 (.c (.bool true)) 18)]
def r3 : List AI := [o 4 (.mov (.c .nil))]
def r4 : List AI := [m 20 1, o 21 (.bin .lss 20 (k 0))]
def r5 : List AI := [m 22 1, m 23 0, o 24 (.len 23), o 25 (.bin .mul (k (-32)) 24), o 26 (.bin .lss 22 25)]
def r6 : List AI := [o 4 (.mov (.c .nil))]
def r7 : List AI := [m 27 1, o 28 (.un .neg 27), m 1 28]
def r8 : List AI := [o 5 (.vrow 107005 1)]
def r9 : List AI := [m 29 1, o 30 (.bin .quo 29 (k 32)), m 6 30]
def r10 : List AI := [m 31 6, m 32 0, o 33 (.len 32), o 34 (.bin .lss 31 33)]
def r12 : List AI := [m 37 0, m 38 6, o 39 (.iadr none 1 37 38), o 40 (.ld false 1 39), o 41 (.conv .u64 40), m 7 41]
def r13 : List AI := [m 42 6, o 43 (.bin .add 42 (k 1)), m 44 0, o 45 (.len 44), o 46 (.bin .lss 43 45)]
def r14 : List AI := [m 47 7, m 48 0, m 49 6, o 50 (.bin .add 49 (k 1)), o 51 (.iadr none 1 48 50), o 52 (.ld false 1 51), o 53 (.conv .u64 52),
 o 54 (.bin .shl 53 (.c (.int .u64 (32)))), o 55 (.bin .or 47 54), m 7 55]
def r15 : List AI := [m 56 5, m 57 7, m 58 1, o 59 (.bin .rem 58 (k 32)), o 60 (.conv .u64 59), o 61 (.bin .shr 57 60), o 62 (.conv .u32 61), o 63 (.bslice 107063 1 [62]),
 o 64 (.app 107064 1 4 56 63), m 5 64]
def r11 : List AI := [m 35 6, o 36 (.bin .add 35 (k 1)), m 6 36]
def r16 : List AI := [m 65 5, o 66 (.call 101 [65]), m 4 66]
def r17 : List AI := [m 67 1, o 68 (.bin .quo 67 (k 32)), o 69 (.mk 107069 1 4 [(.int .u32 (0))] 68 68), m 8 69]
def r18 : List AI := [o 9 (.mov (.c (.int .u64 (0))))]
def r19 : List AI := [o 10 (.mov (k 0))]
def r20 : List AI := [m 70 10, m 71 0, o 72 (.len 71), o 73 (.bin .lss 70 72)]
def r22 : List AI := [m 76 9, m 77 0, m 78 10, o 79 (.iadr none 1 77 78), o 80 (.ld false 1 79), o 81 (.conv .u64 80), m 82 1, o 83 (.bin .rem 82 (k 32)), o 84 (.conv .u64 83),
 o 85 (.bin .shl 81 84), o 86 (.bin .or 76 85), m 9 86]
def r23 : List AI := [m 87 8, m 88 9, o 89 (.conv .u32 88), o 90 (.bslice 107090 1 [89]), o 91 (.app 107091 1 4 87 90), m 8 91]
def r24 : List AI := [m 92 9, o 93 (.bin .shr 92 (.c (.int .u64 (32)))), m 9 93]
def r21 : List AI := [m 74 10, o 75 (.bin .add 74 (k 1)), m 10 75]
def r25 : List AI := [m 94 8, m 95 9, o 96 (.conv .u32 95), o 97 (.bslice 107097 1 [96]), o 98 (.app 107098 1 4 94 97), o 99 (.calli 101 [98]), m 4 99]
def l1 : ACode := (.seq (.seq (.dr (.ops r10 false) [31,32,33] []) (.cond 34 .skip (.exit 0))) (.seq (.block 1 (.seq (.dr (.ops r12 false) [34,37,38,39,40,41] []) (.seq (.seq (.dr (.ops r13 false) [42,43,44,45] []) (.cond 46 (.dr (.ops r14 false) [46,47,48,49,50,51,52,53,54,55] []) .skip)) (.dr (.ops r15 false) [7,46,56,57,58,59,60,61,62,63,64] [])))) (.dr (.ops r11 false) [35,36] [])))
def l2 : ACode := (.seq (.seq (.dr (.ops r20 false) [70,71,72] []) (.cond 73 .skip (.exit 2))) (.seq (.block 3 (.seq (.dr (.ops r22 false) [73,76,77,78,79,80,81,82,83,84,85,86] []) (.seq (.dr (.ops r23 false) [87,88,89,90,91] []) (.dr (.ops r24 false) [92,93] [])))) (.dr (.ops r21 false) [74,75] [])))
def c : ACode := (.seq (.dr (.ops r0 false) [4] []) (.seq (.dr (.ops r1 false) [11,12] []) (.seq (.seq (.dr (.ops r2 false) [13,14,15,16,17,18] []) (.cond 19 (.seq (.dr (.ops r3 false) [0,1,19] []) .ret) .skip)) (.seq (.seq (.dr (.ops r4 false) [19,20] []) (.cond 21 (.seq (.seq (.dr (.ops r5 false) [21,22,23,24,25] []) (.cond 26 (.seq (.dr (.ops r6 false) [0,1,26] []) .ret) .skip)) (.seq (.dr (.ops r7 false) [26,27,28] []) (.seq (.ops r8 false) (.seq (.seq (.dr (.ops r9 false) [29,30] []) (.block 0 (.loop l1))) (.seq (.dr (.ops r16 false) [0,1,5,6,34,65,66] []) .ret))))) .skip)) (.seq (.dr (.ops r17 false) [21,67,68,69] []) (.seq (.ops r18 false) (.seq (.seq (.ops r19 false) (.block 2 (.loop l2))) (.seq (.dr (.ops r25 false) [0,1,8,9,10,73,94,95,96,97,98,99] []) .ret))))))))
end ref01_Shift
def ref01_Shift : AFn := ⟨2, ref01_Shift.c, [.tmp 4], false⟩
namespace ref01_small
def r0 : List AI := [o 4 (.mov (.c .nil)), o 5 (.mov (.c (.int .u32 (0))))]
def r1 : List AI := [m 9 0, o 10 (.len 9), o 11 (.mk 11 1 4 [(.int .u32 (0))] 10 10), m 6 11]
def r2 : List AI := [o 7 (.mov (.c (.int .u64 (0))))]
def r3 : List AI := [m 12 0, o 13 (.len 12), o 14 (.bin .sub 13 (k 1)), m 8 14]
def r4 : List AI := [m 15 8, o 16 (.bin .geq 15 (k 0))]
def r6 : List AI := [m 19 7, o 20 (.bin .shl 19 (.c (.int .u64 (32)))), m 21 0, m 22 8, o 23 (.iadr none 1 21 22), o 24 (.ld false 1 23), o 25 (.conv .u64 24),
 o 26 (.bin .or 20 25), m 7 26]
def r7 : List AI := [m 27 6, m 28 8, m 29 7, m 30 1, o 31 (.conv .u64 30), o 32 (.bin .quo 29 31), o 33 (.conv .u32 32), o 34 (.iadr none 1 27 28), n (.st 1 34 33)]
def r8 : List AI := [m 35 7, m 36 1, o 37 (.conv .u64 36), o 38 (.bin .rem 35 37), m 7 38]
def r5 : List AI := [m 17 8, o 18 (.bin .sub 17 (k 1)), m 8 18]
def r9 : List AI := [m 39 6, o 40 (.call 101 [39]), m 41 7, o 42 (.conv .u32 41), m 4 40, m 5 42]
def l1 : ACode := (.seq (.seq (.dr (.ops r4 false) [15] []) (.cond 16 .skip (.exit 0))) (.seq (.block 1 (.seq (.dr (.ops r6 false) [16,19,20,21,22,23,24,25,26] []) (.seq (.dr (.ops r7 false) [27,28,29,30,31,32,33,34] []) (.dr (.ops r8 false) [35,36,37,38] [])))) (.dr (.ops r5 false) [17,18] [])))
def c : ACode := (.seq (.dr (.ops r0 false) [4,5] []) (.seq (.dr (.ops r1 false) [9,10,11] []) (.seq (.ops r2 false) (.seq (.seq (.dr (.ops r3 false) [12,13,14] []) (.block 0 (.loop l1))) (.seq (.dr (.ops r9 false) [0,1,6,7,8,16,39,40,41,42] []) .ret)))))
end ref01_small
def ref01_small : AFn := ⟨2, ref01_small.c, [.tmp 4, .tmp 5], false⟩
namespace ref01_DivMod
def r0 : List AI := [o 4 (.mov (.c .nil)), o 5 (.mov (.c .nil)), o 6 (.mov (k 0))]
def r1 : List AI := [m 27 0, o 28 (.call 101 [27]), m 29 1, o 30 (.call 101 [29]), m 0 28, m 1 30]
def r2 : List AI := [m 31 1, o 32 (.len 31), o 33 (.bin .eql 32 (k 0))]
def r3 : List AI := [o 4 (.mov (.c .nil)), o 5 (.mov (.c .nil)), o 6 (.mov (k 3))]
def r4 : List AI := [m 34 1, o 35 (.len 34), o 36 (.bin .eql 35 (k 1))]
def r5 : List AI := [m 38 0, m 39 1, o 40 (.iadr none 1 39 (k 0)), o 41 (.ld false 1 40), o 42 (.call 108 [38, 41]), m 37 42, o 43 (.ext 37 0), o 44 (.ext 37 1), m 7 43, m 8 44]
def r6 : List AI := [m 45 7, m 46 8, o 47 (.bslice 47 1 [46]), o 48 (.call 101 [47]), m 4 45, m 5 48, o 6 (.mov (k 0))]
def r7 : List AI := [m 49 0, m 50 1, o 51 (.call 102 [49, 50]), o 52 (.bin .lss 51 (k 0))]
def r8 : List AI := [m 53 0, o 4 (.mov (.c .nil)), m 5 53, o 6 (.mov (k 0))]
def r9 : List AI := [m 54 1, m 55 1, o 56 (.len 55), o 57 (.bin .sub 56 (k 1)), o 58 (.slc 1 54 (some 57) none), o 59 (.call 106 [58]), o 60 (.bin .sub (k 32) 59), m 9 60]
def r10 : List AI := [m 61 0, m 62 9, o 63 (.calli 107 [61, 62]), m 64 1, m 65 9, o 66 (.call 107 [64, 65]), m 10 63, m 11 66]
def r11 : List AI := [m 67 10, o 68 (.bslice 68 1 [(.c (.int .u32 (0)))]), o 69 (.app 69 1 4 67 68), m 10 69]
def r12 : List AI := [m 70 10, o 71 (.len 70), m 72 0, o 73 (.len 72), o 74 (.bin .add 73 (k 1)), o 75 (.bin .lss 71 74)]
def r13 : List AI := [m 76 10, o 77 (.bslice 77 1 [(.c (.int .u32 (0)))]), o 78 (.app 78 1 4 76 77), m 10 78]
def r14 : List AI := [m 79 11, o 80 (.len 79), m 12 80]
def r15 : List AI := [m 81 10, o 82 (.len 81), m 83 12, o 84 (.bin .sub 82 83), o 85 (.mk 85 1 4 [(.int .u32 (0))] 84 84), m 13 85]
def r16 : List AI := [m 86 10, o 87 (.len 86), m 88 12, o 89 (.bin .sub 87 88), o 90 (.bin .sub 89 (k 1)), m 14 90]
def r17 : List AI := [m 91 14, o 92 (.bin .geq 91 (k 0))]
def r19 : List AI := [m 95 10, m 96 14, m 97 12, o 98 (.bin .add 96 97), o 99 (.iadr none 1 95 98), o 100 (.ld false 1 99), o 101 (.conv .u64 100),
 o 102 (.bin .shl 101 (.c (.int .u64 (32)))), m 103 10, m 104 14, m 105 12, o 106 (.bin .add 104 105), o 107 (.bin .sub 106 (k 1)),
 o 108 (.iadr none 1 103 107), o 109 (.ld false 1 108), o 110 (.conv .u64 109), o 111 (.bin .or 102 110), m 15 111]
def r20 : List AI := [m 112 15, m 113 11, m 114 12, o 115 (.bin .sub 114 (k 1)), o 116 (.iadr none 1 113 115), o 117 (.ld false 1 116), o 118 (.conv .u64 117),
 o 119 (.bin .quo 112 118), m 16 119]
def r21 : List AI := [m 120 15, m 121 11, m 122 12, o 123 (.bin .sub 122 (k 1)), o 124 (.iadr none 1 121 123), o 125 (.ld false 1 124), o 126 (.conv .u64 125),
 o 127 (.bin .rem 120 126), m 17 127]
def r22 : List AI := [m 128 16, o 129 (.bin .geq 128 (.c (.int .u64 (4294967296)))), m 130 129, g 131 130 false (.mov 16), g 132 130 false (.mov 11), g 133 130 false (.mov 12),
 g 134 130 false (.bin .sub 133 (k 2)), g 135 130 false (.iadr none 1 132 134), g 136 130 false (.ld false 1 135), g 137 130 false (.conv .u64 136),
 g 138 130 false (.bin .mul 131 137), g 139 130 false (.mov 17), g 140 130 false (.bin .shl 139 (.c (.int .u64 (32)))), g 141 130 false (.mov 10),
 g 142 130 false (.mov 14), g 143 130 false (.mov 12), g 144 130 false (.bin .add 142 143), g 145 130 false (.bin .sub 144 (k 2)),
 g 146 130 false (.iadr none 1 141 145), g 147 130 false (.ld false 1 146), g 148 130 false (.conv .u64 147), g 149 130 false (.bin .or 140 148),
 g 150 130 false (.bin .gtr 138 149), o 151 (.pick 130 (.c (.bool true)) 150)]
def r23 : List AI := [m 152 16, o 153 (.bin .sub 152 (.c (.int .u64 (1)))), m 16 153]
def r24 : List AI := [m 154 17, m 155 11, m 156 12, o 157 (.bin .sub 156 (k 1)), o 158 (.iadr none 1 155 157), o 159 (.ld false 1 158), o 160 (.conv .u64 159),
 o 161 (.bin .add 154 160), m 17 161]
def r25 : List AI := [m 162 17, o 163 (.bin .geq 162 (.c (.int .u64 (4294967296))))]
def r26 : List AI := [o 18 (.mov (.c (.int .u64 (0)))), o 19 (.mov (.c (.int .u64 (0))))]
def r27 : List AI := [o 20 (.mov (k 0))]
def r28 : List AI := [m 164 20, m 165 12, o 166 (.bin .lss 164 165)]
def r30 : List AI := [m 169 19, m 170 16, m 171 11, m 172 20, o 173 (.iadr none 1 171 172), o 174 (.ld false 1 173), o 175 (.conv .u64 174), o 176 (.bin .mul 170 175),
 o 177 (.bin .add 169 176), m 19 177]
def r31 : List AI := [m 178 19, o 179 (.bin .and 178 (.c (.int .u64 (4294967295)))), m 180 18, o 181 (.bin .add 179 180), m 21 181]
def r32 : List AI := [m 182 19, o 183 (.bin .shr 182 (.c (.int .u64 (32)))), m 19 183]
def r33 : List AI := [m 184 10, m 185 20, m 186 14, o 187 (.bin .add 185 186), o 188 (.iadr none 1 184 187), o 189 (.ld false 1 188), o 190 (.conv .u64 189), m 22 190]
def r34 : List AI := [o 18 (.mov (.c (.int .u64 (0))))]
def r35 : List AI := [m 191 22, m 192 21, o 193 (.bin .lss 191 192)]
def r36 : List AI := [m 194 22, o 195 (.bin .add 194 (.c (.int .u64 (4294967296)))), m 22 195]
def r37 : List AI := [o 18 (.mov (.c (.int .u64 (1))))]
def r38 : List AI := [m 196 10, m 197 20, m 198 14, o 199 (.bin .add 197 198), m 200 22, m 201 21, o 202 (.bin .sub 200 201), o 203 (.conv .u32 202), o 204 (.iadr none 1 196 199),
 n (.st 1 204 203)]
def r29 : List AI := [m 167 20, o 168 (.bin .add 167 (k 1)), m 20 168]
def r39 : List AI := [m 205 19, m 206 18, o 207 (.bin .add 205 206), m 23 207]
def r40 : List AI := [m 208 10, m 209 14, m 210 12, o 211 (.bin .add 209 210), o 212 (.iadr none 1 208 211), o 213 (.ld false 1 212), o 214 (.conv .u64 213), m 24 214]
def r41 : List AI := [o 18 (.mov (.c (.int .u64 (0))))]
def r42 : List AI := [m 215 24, m 216 23, o 217 (.bin .lss 215 216)]
def r43 : List AI := [m 218 24, o 219 (.bin .add 218 (.c (.int .u64 (4294967296)))), m 24 219]
def r44 : List AI := [o 18 (.mov (.c (.int .u64 (1))))]
def r45 : List AI := [m 220 10, m 221 14, m 222 12, o 223 (.bin .add 221 222), m 224 24, m 225 23, o 226 (.bin .sub 224 225), o 227 (.conv .u32 226), o 228 (.iadr none 1 220 223),
 n (.st 1 228 227)]
def r46 : List AI := [m 229 18, o 230 (.bin .eql 229 (.c (.int .u64 (1))))]
def r47 : List AI := [m 231 16, o 232 (.bin .sub 231 (.c (.int .u64 (1)))), m 16 232]
def r48 : List AI := [o 25 (.mov (.c (.int .u64 (0))))]
def r49 : List AI := [o 26 (.mov (k 0))]
def r50 : List AI := [m 233 26, m 234 12, o 235 (.bin .lss 233 234)]
def r52 : List AI := [m 238 25, m 239 10, m 240 26, m 241 14, o 242 (.bin .add 240 241), o 243 (.iadr none 1 239 242), o 244 (.ld false 1 243), o 245 (.conv .u64 244), m 246 11,
 m 247 26, o 248 (.iadr none 1 246 247), o 249 (.ld false 1 248), o 250 (.conv .u64 249), o 251 (.bin .add 245 250), o 252 (.bin .add 238 251), m 25 252]
def r53 : List AI := [m 253 10, m 254 26, m 255 14, o 256 (.bin .add 254 255), m 257 25, o 258 (.conv .u32 257), o 259 (.iadr none 1 253 256), n (.st 1 259 258)]
def r54 : List AI := [m 260 25, o 261 (.bin .shr 260 (.c (.int .u64 (32)))), m 25 261]
def r51 : List AI := [m 236 26, o 237 (.bin .add 236 (k 1)), m 26 237]
def r55 : List AI := [m 262 10, m 263 14, m 264 12, o 265 (.bin .add 263 264), o 266 (.iadr none 1 262 265), o 267 (.ld false 1 266), m 268 25, o 269 (.conv .u32 268),
 o 270 (.bin .add 267 269), o 271 (.iadr none 1 262 265), n (.st 1 271 270)]
def r56 : List AI := [m 272 13, m 273 14, m 274 16, o 275 (.conv .u32 274), o 276 (.iadr none 1 272 273), n (.st 1 276 275)]
def r18 : List AI := [m 93 14, o 94 (.bin .sub 93 (k 1)), m 14 94]
def r57 : List AI := [m 277 13, o 278 (.call 101 [277]), m 279 10, m 280 12, o 281 (.slc 1 279 none (some 280)), m 282 9, o 283 (.un .neg 282), o 284 (.call 107 [281, 283]), m 4 278,
 m 5 284, o 6 (.mov (k 0))]
def l1 : ACode := (.seq (.seq (.dr (.ops r12 false) [70,71,72,73,74] []) (.cond 75 .skip (.exit 0))) (.block 1 (.dr (.ops r13 false) [75,76,77,78] [])))
def l3 : ACode := (.seq (.seq (.dr (.ops r22 true) [128,129,130,131,132,133,134,135,136,137,138,139,140,141,142,143,144,145,146,147,148,149,150,163] []) (.cond 151 .skip (.exit 4))) (.block 5 (.seq (.dr (.ops r23 false) [151,152,153] []) (.seq (.dr (.ops r24 false) [154,155,156,157,158,159,160,161] []) (.seq (.dr (.ops r25 false) [162] []) (.cond 163 (.exit 4) .skip))))))
def l4 : ACode := (.seq (.seq (.dr (.ops r28 false) [164,165] []) (.cond 166 .skip (.exit 6))) (.seq (.block 7 (.seq (.dr (.ops r30 false) [166,169,170,171,172,173,174,175,176,177] []) (.seq (.dr (.ops r31 false) [18,178,179,180,181] []) (.seq (.dr (.ops r32 false) [182,183] []) (.seq (.dr (.ops r33 false) [184,185,186,187,188,189,190] []) (.seq (.ops r34 false) (.seq (.seq (.dr (.ops r35 false) [191,192] []) (.cond 193 (.seq (.dr (.ops r36 false) [18,193,194,195] []) (.ops r37 false)) .skip)) (.dr (.ops r38 false) [21,22,193,196,197,198,199,200,201,202,203,204] [])))))))) (.dr (.ops r29 false) [167,168] [])))
def l5 : ACode := (.seq (.seq (.dr (.ops r50 false) [233,234] []) (.cond 235 .skip (.exit 8))) (.seq (.block 9 (.seq (.dr (.ops r52 true) [235,238,239,240,241,242,243,244,245,246,247,248,249,250,251,252] []) (.seq (.dr (.ops r53 false) [253,254,255,256,257,258,259] []) (.dr (.ops r54 false) [260,261] [])))) (.dr (.ops r51 false) [236,237] [])))
def l2 : ACode := (.seq (.seq (.dr (.ops r17 false) [91] []) (.cond 92 .skip (.exit 2))) (.seq (.block 3 (.seq (.dr (.ops r19 true) [92,95,96,97,98,99,100,101,102,103,104,105,106,107,108,109,110,111] []) (.seq (.dr (.ops r20 false) [112,113,114,115,116,117,118,119] []) (.seq (.dr (.ops r21 false) [15,120,121,122,123,124,125,126,127] []) (.seq (.block 4 (.loop l3)) (.seq (.dr (.ops r26 false) [17,151,163] []) (.seq (.seq (.ops r27 false) (.block 6 (.loop l4))) (.seq (.dr (.ops r39 false) [18,19,20,166,205,206,207] []) (.seq (.dr (.ops r40 false) [208,209,210,211,212,213,214] []) (.seq (.ops r41 false) (.seq (.seq (.dr (.ops r42 false) [215,216] []) (.cond 217 (.seq (.dr (.ops r43 false) [18,217,218,219] []) (.ops r44 false)) .skip)) (.seq (.dr (.ops r45 false) [23,24,217,220,221,222,223,224,225,226,227,228] []) (.seq (.seq (.dr (.ops r46 false) [18,229] []) (.cond 230 (.seq (.dr (.ops r47 false) [230,231,232] []) (.seq (.ops r48 false) (.seq (.seq (.ops r49 false) (.block 8 (.loop l5))) (.dr (.ops r55 false) [25,26,235,262,263,264,265,266,267,268,269,270,271] [])))) .skip)) (.dr (.ops r56 false) [16,230,272,273,274,275,276] [])))))))))))))) (.dr (.ops r18 false) [93,94] [])))
def c : ACode := (.seq (.dr (.ops r0 false) [4,5,6] []) (.seq (.dr (.ops r1 false) [27,28,29,30] []) (.seq (.seq (.dr (.ops r2 false) [31,32] []) (.cond 33 (.seq (.dr (.ops r3 false) [0,1,33] []) .ret) .skip)) (.seq (.seq (.dr (.ops r4 false) [33,34,35] []) (.cond 36 (.seq (.dr (.ops r5 false) [0,1,36,37,38,39,40,41,42,43,44] []) (.seq (.dr (.ops r6 false) [7,8,45,46,47,48] []) .ret)) .skip)) (.seq (.seq (.dr (.ops r7 false) [36,49,50,51] []) (.cond 52 (.seq (.dr (.ops r8 false) [0,1,52,53] []) .ret) .skip)) (.seq (.dr (.ops r9 false) [52,54,55,56,57,58,59,60] []) (.seq (.dr (.ops r10 false) [1,61,62,63,64,65,66] []) (.seq (.dr (.ops r11 false) [67,68,69] []) (.seq (.block 0 (.loop l1)) (.seq (.dr (.ops r14 false) [0,75,79,80] []) (.seq (.dr (.ops r15 false) [81,82,83,84,85] []) (.seq (.seq (.dr (.ops r16 false) [86,87,88,89,90] []) (.block 2 (.loop l2))) (.seq (.dr (.ops r57 true) [9,10,11,12,13,14,92,277,278,279,280,281,282,283,284] []) .ret)))))))))))))
end ref01_DivMod
def ref01_DivMod : AFn := ⟨2, ref01_DivMod.c, [.tmp 4, .tmp 5, .tmp 6], false⟩
namespace ref01_Gcd
def r0 : List AI := [o 4 (.mov (.c .nil))]
def r1 : List AI := [m 8 0, o 9 (.call 101 [8]), m 10 1, o 11 (.call 101 [10]), m 0 9, m 1 11]
def r2 : List AI := [m 12 1, o 13 (.len 12), o 14 (.bin .gtr 13 (k 0))]
def r3 : List AI := [m 16 0, m 17 1, o 18 (.call 109 [16, 17]), m 15 18, o 19 (.ext 15 0), o 20 (.ext 15 1), o 21 (.ext 15 2), m 5 19, m 6 20, m 7 21]
def r4 : List AI := [m 22 1, m 23 6, m 0 22, m 1 23]
def r5 : List AI := [m 24 0, m 4 24]
def l1 : ACode := (.seq (.seq (.dr (.ops r2 false) [12,13] []) (.cond 14 .skip (.exit 0))) (.block 1 (.seq (.dr (.ops r3 false) [0,5,7,14,15,16,17,18,19,20,21] []) (.dr (.ops r4 false) [6,22,23] []))))
def c : ACode := (.seq (.dr (.ops r0 false) [4] []) (.seq (.dr (.ops r1 false) [8,9,10,11] []) (.seq (.block 0 (.loop l1)) (.seq (.dr (.ops r5 false) [0,1,14,24] []) .ret))))
end ref01_Gcd
def ref01_Gcd : AFn := ⟨2, ref01_Gcd.c, [.tmp 4], false⟩
namespace ref02_Trim
def r0 : List AI := [o 1 (.box 1 0), o 2 (.alloc 2 [(.bool false), .nil])]
def r1 : List AI := [o 4 (.fadr 1 1), o 5 (.ld false 1 4), o 6 (.call 101 [5]), m 3 6]
def r2 : List AI := [o 7 (.fadr 1 0), o 8 (.ld false 1 7), m 9 8, g 10 9 true (.mov 3), g 11 9 true (.len 10), g 12 9 true (.bin .gtr 11 (k 0)),
 o 13 (.pick 9 12 (.c (.bool false))), m 14 3, o 15 (.build [(.bool false), .nil] [(0, 1, 13), (1, 1, 14)]), n (.st 2 2 15)]
def c : ACode := (.seq (.dr (.ops r0 false) [0] []) (.seq (.dr (.ops r1 false) [4,5,6] []) (.seq (.dr (.ops r2 false) [1,3,7,8,9,10,11,12,13,14,15] []) .ret)))
end ref02_Trim
def ref02_Trim : AFn := ⟨1, ref02_Trim.c, [.cell 2 true 2], false⟩
namespace ref02_Of
def r0 : List AI := [o 2 (.alloc 2 [(.bool false), .nil])]
def r1 : List AI := [m 4 0, o 5 (.bin .lss 4 (k 0))]
def r2 : List AI := [m 6 0, o 7 (.bin .add 6 (k 1)), o 8 (.un .neg 7), o 9 (.conv .u64 8), o 10 (.bin .add 9 (.c (.int .u64 (1)))), m 3 10]
def r3 : List AI := [m 11 3, o 12 (.conv .u32 11), m 13 3, o 14 (.bin .shr 13 (.c (.int .u64 (32)))), o 15 (.conv .u32 14), o 16 (.bslice 16 1 [12, 15]),
 o 17 (.build [(.bool false), .nil] [(0, 1, (.c (.bool true))), (1, 1, 16)]), o 18 (.call 111 [17]), n (.st 2 2 18)]
def r4 : List AI := [m 19 0, o 20 (.conv .u32 19), m 21 0, o 22 (.conv .u64 21), o 23 (.bin .shr 22 (.c (.int .u64 (32)))), o 24 (.conv .u32 23), o 25 (.bslice 25 1 [20, 24]),
 o 26 (.build [(.bool false), .nil] [(1, 1, 25)]), o 27 (.call 111 [26]), n (.st 2 2 27)]
def c : ACode := (.seq (.ops r0 false) (.seq (.seq (.dr (.ops r1 false) [4] []) (.cond 5 (.seq (.dr (.ops r2 false) [0,5,6,7,8,9,10] []) (.seq (.dr (.ops r3 false) [3,11,12,13,14,15,16,17,18] []) .ret)) .skip)) (.seq (.dr (.ops r4 false) [0,5,19,20,21,22,23,24,25,26,27] []) .ret)))
end ref02_Of
def ref02_Of : AFn := ⟨1, ref02_Of.c, [.cell 2 true 2], false⟩
namespace ref02_Sign
def r0 : List AI := [o 1 (.box 1 0), o 2 (.mov (k 0))]
def r1 : List AI := [o 3 (.ld true 2 1), o 4 (.call 111 [3]), n (.st 2 1 4)]
def r2 : List AI := [o 6 (.fadr 1 1), o 7 (.ld false 1 6), o 8 (.len 7), o 9 (.bin .eql 8 (k 0)), m 5 9]
def r3 : List AI := [o 2 (.mov (k 0))]
def r4 : List AI := [o 11 (.fadr 1 0), o 12 (.ld false 1 11), m 10 12]
def r5 : List AI := [o 2 (.mov (k (-1)))]
def r6 : List AI := [o 2 (.mov (k 1))]
def c : ACode := (.seq (.dr (.ops r0 false) [0,2] []) (.seq (.dr (.ops r1 false) [3,4] []) (.seq (.block 0 (.seq (.dr (.ops r2 false) [6,7,8,9] []) (.cond 5 (.seq (.dr (.ops r3 false) [1,5] []) .ret) (.seq (.dr (.ops r4 false) [1,5,11,12] []) (.cond 10 (.seq (.dr (.ops r5 false) [10] []) .ret) .skip))))) (.seq (.dr (.ops r6 false) [10] []) .ret))))
end ref02_Sign
def ref02_Sign : AFn := ⟨1, ref02_Sign.c, [.tmp 2], false⟩
namespace ref02_Neg
def r0 : List AI := [o 1 (.box 1 0), o 2 (.alloc 2 [(.bool false), .nil])]
def r1 : List AI := [o 3 (.ld true 2 1), o 4 (.call 111 [3]), n (.st 2 1 4)]
def r2 : List AI := [o 5 (.fadr 1 0), o 6 (.ld false 1 5), o 7 (.un .not 6), m 8 7, g 9 8 true (.fadr 1 1), g 10 8 true (.ld false 1 9), g 11 8 true (.len 10),
 g 12 8 true (.bin .gtr 11 (k 0)), o 13 (.pick 8 12 (.c (.bool false))), o 14 (.fadr 1 0), n (.st 1 14 13)]
def r3 : List AI := [o 15 (.ld true 2 1), n (.st 2 2 15)]
def c : ACode := (.seq (.dr (.ops r0 false) [0] []) (.seq (.dr (.ops r1 false) [3,4] []) (.seq (.dr (.ops r2 false) [5,6,7,8,9,10,11,12,13,14] []) (.seq (.dr (.ops r3 false) [1,15] []) .ret))))
end ref02_Neg
def ref02_Neg : AFn := ⟨1, ref02_Neg.c, [.cell 2 true 2], false⟩
namespace ref02_Div
def r0 : List AI := [o 2 (.box 2 0), o 3 (.box 3 1), o 4 (.alloc 4 [(.bool false), .nil]), o 5 (.alloc 5 [(.bool false), .nil]), o 6 (.mov (k 0))]
def r1 : List AI := [o 10 (.ld true 2 2), o 11 (.call 111 [10]), o 12 (.ld true 2 3), o 13 (.call 111 [12]), n (.st 2 2 11), n (.st 2 3 13)]
def r2 : List AI := [o 15 (.fadr 2 1), o 16 (.ld false 1 15), o 17 (.fadr 3 1), o 18 (.ld false 1 17), o 19 (.call 109 [16, 18]), m 14 19, o 20 (.ext 14 0), o 21 (.ext 14 1),
 o 22 (.ext 14 2), m 7 20, m 8 21, m 9 22]
def r3 : List AI := [m 23 9, o 24 (.bin .neq 23 (k 0))]
def r4 : List AI := [o 25 (.build [(.bool false), .nil] []), o 26 (.build [(.bool false), .nil] []), m 27 9, n (.st 2 4 25), n (.st 2 5 26), m 6 27]
def r5 : List AI := [o 28 (.fadr 2 0), o 29 (.ld false 1 28), m 30 29, g 31 30 true (.mov 8), g 32 30 true (.len 31), g 33 30 true (.bin .gtr 32 (k 0)),
 o 34 (.pick 30 33 (.c (.bool false)))]
def r6 : List AI := [m 35 7, o 36 (.bslice 36 1 [(.c (.int .u32 (1)))]), o 37 (.call 103 [35, 36]), o 38 (.fadr 3 1), ⟨some 39, .ld false 1 38, none, [36]⟩, m 40 8,
 o 41 (.call 104 [39, 40]), m 7 37, m 8 41]
def r7 : List AI := [o 42 (.fadr 2 0), o 43 (.ld false 1 42), o 44 (.fadr 3 0), o 45 (.ld false 1 44), o 46 (.beq true 43 45), m 47 7,
 o 48 (.build [(.bool false), .nil] [(0, 1, 46), (1, 1, 47)]), o 49 (.call 111 [48]), m 50 8, o 51 (.build [(.bool false), .nil] [(1, 1, 50)]), n (.st 2 4 49),
 n (.st 2 5 51), o 6 (.mov (k 0))]
def c : ACode := (.seq (.dr (.ops r0 false) [0,1,6] []) (.seq (.dr (.ops r1 true) [10,11,12,13] []) (.seq (.dr (.ops r2 false) [14,15,16,17,18,19,20,21,22] []) (.seq (.seq (.dr (.ops r3 false) [23] []) (.cond 24 (.seq (.dr (.ops r4 false) [2,3,7,8,9,24,25,26,27] []) .ret) .skip)) (.seq (.seq (.dr (.ops r5 false) [9,24,28,29,30,31,32,33] []) (.cond 34 (.dr (.ops r6 true) [34,35,36,37,38,39,40,41] []) .skip)) (.seq (.dr (.ops r7 false) [2,3,7,8,34,42,43,44,45,46,47,48,49,50,51] []) .ret))))))
end ref02_Div
def ref02_Div : AFn := ⟨2, ref02_Div.c, [.cell 4 true 2, .cell 5 true 2, .tmp 6], false⟩
namespace ref02_Gcd
def r0 : List AI := [o 2 (.box 2 0), o 3 (.box 3 1), o 4 (.alloc 4 [(.bool false), .nil])]
def r1 : List AI := [o 5 (.fadr 2 1), o 6 (.ld false 1 5), o 7 (.fadr 3 1), o 8 (.ld false 1 7), o 9 (.call 110 [6, 8]), o 10 (.build [(.bool false), .nil] [(1, 1, 9)]),
 n (.st 2 4 10)]
def c : ACode := (.seq (.dr (.ops r0 false) [0,1] []) (.seq (.dr (.ops r1 false) [2,3,5,6,7,8,9,10] []) .ret))
end ref02_Gcd
def ref02_Gcd : AFn := ⟨2, ref02_Gcd.c, [.cell 4 true 2], false⟩
namespace ref03_reduce
def r0 : List AI := [o 2 (.box 2 0), o 3 (.box 3 1), o 4 (.alloc 4 [(.bool false), .nil, .nil])]
def r1 : List AI := [o 12 (.ld true 2 2), o 13 (.call 113 [12]), o 14 (.bin .eql 13 (k 0)), m 15 14, g 16 15 false (.ld true 2 3), g 17 15 false (.call 113 [16]),
 g 18 15 false (.bin .eql 17 (k 0)), o 19 (.pick 15 (.c (.bool true)) 18)]
def r2 : List AI := [o 20 (.bslice 20 1 [(.c (.int .u32 (1)))]), o 21 (.build [(.bool false), .nil, .nil] [(2, 1, 20)]), n (.st 3 4 21)]
def r3 : List AI := [o 22 (.ld true 2 2), o 23 (.ld true 2 3), o 24 (.call 120 [22, 23]), o 5 (.alloc 5 [(.bool false), .nil]), n (.st 2 5 24)]
def r4 : List AI := [o 26 (.ld true 2 2), o 27 (.ld true 2 5), o 28 (.call 119 [26, 27]), m 25 28, o 29 (.ext 25 0), o 30 (.ext 25 1), o 31 (.ext 25 2),
 o 6 (.alloc 6 [(.bool false), .nil]), o 7 (.alloc 7 [(.bool false), .nil]), n (.st 2 6 29), n (.st 2 7 30), m 8 31]
def r5 : List AI := [o 33 (.ld true 2 3), o 34 (.ld true 2 5), o 35 (.call 119 [33, 34]), m 32 35, o 36 (.ext 32 0), o 37 (.ext 32 1), o 38 (.ext 32 2),
 o 9 (.alloc 9 [(.bool false), .nil]), o 10 (.alloc 10 [(.bool false), .nil]), n (.st 2 9 36), n (.st 2 10 37), m 11 38]
def r6 : List AI := [o 39 (.fadr 9 0), o 40 (.ld false 1 39)]
def r7 : List AI := [o 41 (.ld true 2 6), o 42 (.call 114 [41]), n (.st 2 6 42)]
def r8 : List AI := [o 43 (.ld true 2 6), o 44 (.fadr 9 1), o 45 (.ld false 1 44), o 46 (.build [(.bool false), .nil, .nil] [(0, 2, 43), (2, 1, 45)]), n (.st 3 4 46)]
def c : ACode := (.seq (.dr (.ops r0 false) [0,1] []) (.seq (.seq (.dr (.ops r1 false) [12,13,14,15,16,17,18] []) (.cond 19 (.seq (.dr (.ops r2 false) [2,3,19,20,21] []) .ret) .skip)) (.seq (.dr (.ops r3 false) [19,22,23,24] []) (.seq (.dr (.ops r4 false) [2,7,8,25,26,27,28,29,30,31] []) (.seq (.dr (.ops r5 false) [3,5,10,11,32,33,34,35,36,37,38] []) (.seq (.seq (.dr (.ops r6 false) [39] []) (.cond 40 (.dr (.ops r7 false) [40,41,42] []) .skip)) (.seq (.dr (.ops r8 false) [6,9,40,43,44,45,46] []) .ret)))))))
end ref03_reduce
def ref03_reduce : AFn := ⟨2, ref03_reduce.c, [.cell 4 true 3], false⟩
namespace ref03_parts
def r0 : List AI := [o 1 (.box 1 0), o 2 (.alloc 2 [(.bool false), .nil]), o 3 (.alloc 3 [(.bool false), .nil])]
def r1 : List AI := [o 5 (.fadr 1 2), o 6 (.ld false 1 5), o 7 (.call 101 [6]), o 8 (.build [(.bool false), .nil] [(1, 1, 7)]), o 4 (.alloc 4 [(.bool false), .nil]), n (.st 2 4 8)]
def r2 : List AI := [o 9 (.fadr 4 1), o 10 (.ld false 1 9), o 11 (.len 10), o 12 (.bin .eql 11 (k 0))]
def r3 : List AI := [o 13 (.build [(.bool false), .nil] []), o 14 (.bslice 14 1 [(.c (.int .u32 (1)))]), o 15 (.build [(.bool false), .nil] [(1, 1, 14)]), n (.st 2 2 13),
 n (.st 2 3 15)]
def r4 : List AI := [o 16 (.fadr 1 0), o 17 (.ld true 2 16), ⟨some 18, .ld true 2 4, none, [2]⟩, n (.sto 2 2 2 17), n (.st 2 3 18)]
def c : ACode := (.seq (.dr (.ops r0 false) [0] []) (.seq (.dr (.ops r1 false) [5,6,7,8] []) (.seq (.seq (.dr (.ops r2 false) [9,10,11] []) (.cond 12 (.seq (.dr (.ops r3 false) [1,4,12,13,14,15] []) .ret) .skip)) (.seq (.dr (.ops r4 true) [1,4,12,16,17,18] []) .ret))))
end ref03_parts
def ref03_parts : AFn := ⟨1, ref03_parts.c, [.cell 2 true 2, .cell 3 true 2], false⟩
namespace ref03_Trim
def r0 : List AI := [o 1 (.box 1 0), o 2 (.alloc 2 [(.bool false), .nil, .nil])]
def r1 : List AI := [o 6 (.ld true 3 1), o 7 (.call 122 [6]), m 5 7, o 8 (.ext 5 0), o 9 (.ext 5 1), o 3 (.alloc 3 [(.bool false), .nil]), o 4 (.alloc 4 [(.bool false), .nil]),
 n (.st 2 3 8), n (.st 2 4 9)]
def r2 : List AI := [o 10 (.ld true 2 3), o 11 (.ld true 2 4), o 12 (.call 121 [10, 11]), n (.st 3 2 12)]
def c : ACode := (.seq (.dr (.ops r0 false) [0] []) (.seq (.dr (.ops r1 false) [1,5,6,7,8,9] []) (.seq (.dr (.ops r2 false) [3,4,10,11,12] []) .ret)))
end ref03_Trim
def ref03_Trim : AFn := ⟨1, ref03_Trim.c, [.cell 2 true 3], false⟩
namespace ref03_Of
def r0 : List AI := [o 2 (.alloc 2 [(.bool false), .nil, .nil])]
def r1 : List AI := [m 3 0, o 4 (.call 112 [3]), o 5 (.bslice 5 1 [(.c (.int .u32 (1)))]), o 6 (.build [(.bool false), .nil, .nil] [(0, 2, 4), (2, 1, 5)]), n (.st 3 2 6)]
def c : ACode := (.seq (.ops r0 false) (.seq (.dr (.ops r1 false) [0,3,4,5,6] []) .ret))
end ref03_Of
def ref03_Of : AFn := ⟨1, ref03_Of.c, [.cell 2 true 3], false⟩
namespace ref03_Frac
def r0 : List AI := [o 4 (.alloc 4 [(.bool false), .nil, .nil])]
def r1 : List AI := [m 5 0, o 6 (.call 112 [5]), m 7 1, o 8 (.call 112 [7]), o 9 (.call 121 [6, 8]), n (.st 3 4 9)]
def c : ACode := (.seq (.ops r0 false) (.seq (.dr (.ops r1 false) [0,1,5,6,7,8,9] []) .ret))
end ref03_Frac
def ref03_Frac : AFn := ⟨2, ref03_Frac.c, [.cell 4 true 3], false⟩
structure RefGLib (L : Lib) : Prop where
 ref01_Trim : L 101 = some F.ref01_Trim
 ref01_Compare : L 102 = some F.ref01_Compare
 ref01_Add : L 103 = some F.ref01_Add
 ref01_Sub : L 104 = some F.ref01_Sub
 ref01_BitLen : L 106 = some F.ref01_BitLen
 ref01_Shift : L 107 = some F.ref01_Shift
 ref01_small : L 108 = some F.ref01_small
 ref01_DivMod : L 109 = some F.ref01_DivMod
 ref01_Gcd : L 110 = some F.ref01_Gcd
 ref02_Trim : L 111 = some F.ref02_Trim
 ref02_Of : L 112 = some F.ref02_Of
 ref02_Sign : L 113 = some F.ref02_Sign
 ref02_Neg : L 114 = some F.ref02_Neg
 ref02_Div : L 119 = some F.ref02_Div
 ref02_Gcd : L 120 = some F.ref02_Gcd
 ref03_reduce : L 121 = some F.ref03_reduce
 ref03_parts : L 122 = some F.ref03_parts
 ref03_Trim : L 123 = some F.ref03_Trim
 ref03_Of : L 124 = some F.ref03_Of
 ref03_Frac : L 125 = some F.ref03_Frac
end Go.Eng.F

namespace Go.Eng.F
open C
namespace direct_wrong
def r0 : List AI := [o 6 (.box 6 2), o 7 (.box 7 3), o 8 (.mov (k 0))]
def r1 : List AI := [o 13 (.ld true 4 6), o 14 (.call 2 [13]), o 15 (.un .not 14), m 16 15, g 17 16 false (.ld true 4 7), g 18 16 false (.call 2 [17]), g 19 16 false (.un .not 18),
 o 20 (.pick 16 (.c (.bool true)) 19)]
def r2 : List AI := [o 8 (.mov (k 2))]
def r3 : List AI := [m 21 0, o 22 (.len 21), o 23 (.bin .eql 22 (k 0)), m 24 23, g 25 24 false (.mov 0), g 26 24 false (.len 25), g 27 24 false (.bin .gtr 26 (k 49)),
 o 28 (.pick 24 (.c (.bool true)) 27), m 29 28, g 30 29 false (.mov 1), g 31 29 false (.len 30), g 32 29 false (.bin .gtr 31 (k 8)),
 o 33 (.pick 29 (.c (.bool true)) 32)]
def r4 : List AI := [o 8 (.mov (k 12))]
def r5 : List AI := [m 34 0, o 35 (.len 34), o 36 (.mov (k 0))]
def r6 : List AI := [o 37 (.bin .lss 36 35)]
def r7 : List AI := [o 38 (.iadr none 1 34 36), o 39 (.ld false 1 38), m 10 39]
def r8 : List AI := [o 40 (.ld true 4 7), m 41 10, o 42 (.call 5 [40, 41]), o 43 (.un .not 42)]
def r9 : List AI := [o 8 (.mov (k 17))]
def r10 : List AI := [o 44 (.bin .add 36 (k 1)), m 36 44]
def r11 : List AI := [m 45 1, o 46 (.len 45), o 47 (.mov (k 0))]
def r12 : List AI := [o 48 (.bin .lss 47 46)]
def r13 : List AI := [o 49 (.iadr none 1 45 47), o 50 (.ld false 1 49), m 12 50]
def r14 : List AI := [o 51 (.ld true 4 7), m 52 12, o 53 (.call 5 [51, 52]), o 54 (.un .not 53), m 55 54, g 56 55 false (.ld true 4 7), g 57 55 false (.mov 12),
 g 58 55 false (.un .neg 57), g 59 55 false (.call 5 [56, 58]), g 60 55 false (.un .not 59), o 61 (.pick 55 (.c (.bool true)) 60)]
def r15 : List AI := [o 8 (.mov (k 17))]
def r16 : List AI := [o 62 (.bin .add 47 (k 1)), m 47 62]
def r17 : List AI := [o 8 (.mov (k 0))]
def l1 : ACode := (.seq (.ops r6 false) (.seq (.cond 37 .skip (.exit 0)) (.seq (.block 1 (.seq (.dr (.ops r7 false) [37,38,39] []) (.seq (.dr (.ops r8 false) [10,40,41,42] []) (.cond 43 (.seq (.dr (.ops r9 false) [1,7,34,35,36,43] []) .ret) .skip)))) (.dr (.ops r10 false) [43,44] []))))
def l2 : ACode := (.seq (.ops r12 false) (.seq (.cond 48 .skip (.exit 2)) (.seq (.block 3 (.seq (.dr (.ops r13 false) [48,49,50] []) (.seq (.dr (.ops r14 false) [12,51,52,53,54,55,56,57,58,59,60] []) (.cond 61 (.seq (.dr (.ops r15 false) [7,45,46,47,61] []) .ret) .skip)))) (.dr (.ops r16 false) [61,62] []))))
def c : ACode := (.seq (.dr (.ops r0 false) [2,3,8] []) (.seq (.seq (.dr (.ops r1 false) [6,13,14,15,16,17,18,19] []) (.cond 20 (.seq (.dr (.ops r2 false) [0,1,7,20] []) .ret) .skip)) (.seq (.seq (.dr (.ops r3 false) [20,21,22,23,24,25,26,27,28,29,30,31,32] []) (.cond 33 (.seq (.dr (.ops r4 false) [0,1,7,33] []) .ret) .skip)) (.seq (.seq (.dr (.ops r5 false) [0,33] []) (.block 0 (.loop l1))) (.seq (.seq (.dr (.ops r11 false) [1,34,35,36,37] []) (.block 2 (.loop l2))) (.seq (.dr (.ops r17 false) [7,45,46,47,48] []) .ret))))))
end direct_wrong
def direct_wrong : AFn := ⟨4, direct_wrong.c, [.tmp 8], false⟩
namespace direct_row
def r0 : List AI := [o 6 (.mov (.c .nil))]
def r1 : List AI := [m 10 0, o 11 (.len 10), o 12 (.mk 12 2 16 [z, z] 11 11), m 7 12]
def r2 : List AI := [m 13 0, o 14 (.len 13), o 15 (.mov (k 0))]
def r3 : List AI := [o 16 (.bin .lss 15 14)]
def r4 : List AI := [m 17 15, o 18 (.iadr none 1 13 15), o 19 (.ld false 1 18), m 8 17, m 9 19]
def r5 : List AI := [m 20 7, m 21 8, m 22 2, m 23 8, o 24 (.bin .add 22 23), m 25 1, m 26 9, o 27 (.bin .mul 25 26), o 28 (.build [z, z] [(0, 1, 24), (1, 1, 27)]),
 o 29 (.iadr none 2 20 21), n (.st 2 29 28)]
def r6 : List AI := [o 30 (.bin .add 15 (k 1)), m 15 30]
def r7 : List AI := [m 31 7, m 6 31]
def l1 : ACode := (.seq (.ops r3 false) (.seq (.cond 16 .skip (.exit 0)) (.seq (.block 1 (.seq (.dr (.ops r4 false) [16,17,18,19] []) (.dr (.ops r5 false) [8,9,20,21,22,23,24,25,26,27,28,29] []))) (.dr (.ops r6 false) [30] []))))
def c : ACode := (.seq (.dr (.ops r0 false) [6] []) (.seq (.dr (.ops r1 false) [10,11,12] []) (.seq (.seq (.dr (.ops r2 false) [0] []) (.block 0 (.loop l1))) (.seq (.dr (.ops r7 false) [1,2,7,13,14,15,16,31] []) .ret))))
end direct_row
def direct_row : AFn := ⟨3, direct_row.c, [.tmp 6], false⟩
namespace direct_join
def r0 : List AI := [o 2 (.mov (.c .nil))]
def r1 : List AI := [o 3 (.vrow 3 2)]
def r2 : List AI := [m 6 0, o 7 (.len 6), o 8 (.mov (k 0))]
def r3 : List AI := [o 9 (.bin .lss 8 7)]
def r4 : List AI := [o 10 (.iadr none 1 6 8), o 11 (.ld false 1 10), m 5 11]
def r5 : List AI := [m 12 3, m 13 5, o 14 (.app 14 2 16 12 13), m 3 14]
def r6 : List AI := [o 15 (.bin .add 8 (k 1)), m 8 15]
def r7 : List AI := [m 16 3, m 2 16]
def l1 : ACode := (.seq (.ops r3 false) (.seq (.cond 9 .skip (.exit 0)) (.seq (.block 1 (.seq (.dr (.ops r4 false) [9,10,11] []) (.dr (.ops r5 false) [5,12,13,14] []))) (.dr (.ops r6 false) [15] []))))
def c : ACode := (.seq (.dr (.ops r0 false) [2] []) (.seq (.ops r1 false) (.seq (.seq (.dr (.ops r2 false) [0] []) (.block 0 (.loop l1))) (.seq (.dr (.ops r7 false) [3,6,7,8,9,16] []) .ret))))
end direct_join
def direct_join : AFn := ⟨1, direct_join.c, [.tmp 2], false⟩
namespace direct_delay
def r0 : List AI := [m 7 0, o 8 (.len 7), o 9 (.mov (k 0))]
def r1 : List AI := [o 10 (.bin .lss 9 8)]
def r2 : List AI := [m 11 9, m 6 11]
def r3 : List AI := [m 12 6, o 13 (.bin .eql 12 (k 0))]
def r4 : List AI := [m 14 0, m 15 6, m 16 2, o 17 (.iadr none 1 14 15), n (.st 1 17 16)]
def r5 : List AI := [m 18 0, m 19 6, m 20 1, m 21 6, o 22 (.bin .add 20 21), o 23 (.bin .sub 22 (k 1)), o 24 (.iadr none 1 18 19), n (.st 1 24 23)]
def r6 : List AI := [o 25 (.bin .add 9 (k 1)), m 9 25]
def l1 : ACode := (.seq (.ops r1 false) (.seq (.cond 10 .skip (.exit 0)) (.seq (.block 1 (.seq (.dr (.ops r2 false) [10,11] []) (.seq (.dr (.ops r3 false) [12] []) (.cond 13 (.dr (.ops r4 false) [6,13,14,15,16,17] []) (.dr (.ops r5 false) [6,13,18,19,20,21,22,23,24] []))))) (.dr (.ops r6 false) [25] []))))
def c : ACode := (.seq (.dr (.ops r0 false) [7] []) (.block 0 (.loop l1)))
end direct_delay
def direct_delay : AFn := ⟨3, direct_delay.c, [], false⟩
namespace direct_FormOne
def r0 : List AI := [o 6 (.box 6 2), o 7 (.box 7 3), o 8 (.alloc 8 [z, z, z, z, z, z, z, z, z, .nil, .nil, z]), o 9 (.mov (k 0))]
def r1 : List AI := [m 14 0, m 15 1, o 16 (.ld true 4 6), o 17 (.ld true 4 7), o 18 (.call 46 [14, 15, 16, 17]), m 10 18]
def r2 : List AI := [m 19 10, o 20 (.bin .neq 19 (k 0))]
def r3 : List AI := [o 21 (.build [z, z, z, z, z, z, z, z, z, .nil, .nil, z] []), m 22 10, n (.st 12 8 21), m 9 22]
def r4 : List AI := [m 23 0, o 24 (.len 23), o 25 (.bin .sub 24 (k 1)), m 11 25]
def r5 : List AI := [m 26 11, m 27 1, o 28 (.len 27), o 29 (.bin .add 26 28), m 12 29]
def r6 : List AI := [⟨some 30, .ld true 4 6, none, [34,13]⟩, ⟨some 31, .ld true 4 7, none, [34,13]⟩, m 32 12, m 33 12, o 34 (.mk 34 1 8 [z] 33 33), m 35 12,
 o 36 (.bin .add 35 (k 1)), o 37 (.build [z, z, z, z, z, z, z, z, z, .nil, .nil, z] [(0, 4, 30), (4, 4, 31), (8, 1, 32), (10, 1, 34), (11, 1, 36)]),
 o 13 (.alloc 13 [z, z, z, z, z, z, z, z, z, .nil, .nil, z]), n (.st 12 13 37)]
def r7 : List AI := [m 38 0, o 39 (.call 47 [38, (k 1), (k 0)]), m 40 1, m 41 11, o 42 (.bin .add 41 (k 1)), o 43 (.call 47 [40, (k (-1)), 42]), o 44 (.bslice 44 1 [39, 43]),
 o 45 (.call 48 [44]), o 46 (.build [.nil] [(0, 1, 45)]), o 47 (.bslice 47 1 [46]), o 48 (.fadr 13 9), n (.st 1 48 47)]
def r8 : List AI := [o 49 (.fadr 13 10), o 50 (.ld false 1 49), m 51 11, o 52 (.slc 1 50 none (some 51)), o 53 (.calli 49 [52, (k 1), (k 0)])]
def r9 : List AI := [o 54 (.fadr 13 10), o 55 (.ld false 1 54), m 56 11, o 57 (.slc 1 55 (some 56) none), m 58 11, o 59 (.bin .add 58 (k 1)), o 60 (.fadr 13 11),
 o 61 (.ld false 1 60), o 62 (.calli 49 [57, 59, 61])]
def r10 : List AI := [o 63 (.ld true 12 13), n (.st 12 8 63), o 9 (.mov (k 0))]
def c : ACode := (.seq (.dr (.ops r0 false) [2,3,9] []) (.seq (.seq (.dr (.ops r1 false) [14,15,16,17,18] []) (.seq (.dr (.ops r2 false) [19] []) (.cond 20 (.seq (.dr (.ops r3 false) [0,1,6,7,10,20,21,22] []) .ret) .skip))) (.seq (.dr (.ops r4 false) [10,20,23,24,25] []) (.seq (.dr (.ops r5 false) [26,27,28,29] []) (.seq (.dr (.ops r6 true) [6,7,12,30,31,32,33,34,35,36,37] []) (.seq (.dr (.ops r7 false) [0,1,38,39,40,41,42,43,44,45,46,47,48] []) (.seq (.dr (.ops r8 false) [49,50,51,52,53] []) (.seq (.dr (.ops r9 true) [11,54,55,56,57,58,59,60,61,62] []) (.seq (.dr (.ops r10 false) [13,63] []) .ret)))))))))
end direct_FormOne
def direct_FormOne : AFn := ⟨4, direct_FormOne.c, [.cell 8 true 12, .tmp 9], false⟩
namespace direct_FormTwo
def r0 : List AI := [o 6 (.box 6 2), o 7 (.box 7 3), o 8 (.alloc 8 [z, z, z, z, z, z, z, z, z, .nil, .nil, z]), o 9 (.mov (k 0))]
def r1 : List AI := [m 15 0, m 16 1, o 17 (.ld true 4 6), o 18 (.ld true 4 7), o 19 (.call 46 [15, 16, 17, 18]), m 10 19]
def r2 : List AI := [m 20 10, o 21 (.bin .neq 20 (k 0))]
def r3 : List AI := [o 22 (.build [z, z, z, z, z, z, z, z, z, .nil, .nil, z] []), m 23 10, n (.st 12 8 22), m 9 23]
def r4 : List AI := [m 24 0, o 25 (.len 24), o 26 (.bin .sub 25 (k 1)), m 27 1, o 28 (.len 27), o 29 (.mm true [26, 28]), m 11 29]
def r5 : List AI := [m 30 11, o 31 (.bin .add 30 (k 1)), m 12 31]
def r6 : List AI := [⟨some 32, .ld true 4 6, none, [36,13]⟩, ⟨some 33, .ld true 4 7, none, [36,13]⟩, m 34 11, m 35 11, o 36 (.mk 36 1 8 [z] 35 35), m 37 12,
 o 38 (.bin .add 37 (k 1)), o 39 (.build [z, z, z, z, z, z, z, z, z, .nil, .nil, z] [(0, 4, 32), (4, 4, 33), (8, 1, 34), (10, 1, 36), (11, 1, 38)]),
 o 13 (.alloc 13 [z, z, z, z, z, z, z, z, z, .nil, .nil, z]), n (.st 12 13 39)]
def r7 : List AI := [o 40 (.fadr 7 1), o 41 (.ld false 1 40), o 42 (.bin .shl (k 1) 41), o 43 (.bslice 43 1 [42]), m 14 43]
def r8 : List AI := [m 44 14, o 45 (.call 47 [44, (k 1), (k 0)]), m 46 1, o 47 (.call 47 [46, (k (-1)), (k 1)]), o 48 (.bslice 48 1 [45, 47]), o 49 (.call 48 [48]),
 o 50 (.build [.nil] [(0, 1, 49)]), m 51 0, o 52 (.slc 1 51 none (some (k 1))), m 53 12, o 54 (.call 47 [52, (k 1), 53]), m 55 0,
 o 56 (.slc 1 55 (some (k 1)) none), o 57 (.call 47 [56, (k 1), (k 1)]), o 58 (.bslice 58 1 [54, 57]), o 59 (.call 48 [58]), o 60 (.build [.nil] [(0, 1, 59)]),
 o 61 (.bslice 61 1 [50, 60]), o 62 (.fadr 13 9), n (.st 1 62 61)]
def r9 : List AI := [o 63 (.fadr 13 10), o 64 (.ld false 1 63), m 65 12, o 66 (.calli 49 [64, (k 1), 65])]
def r10 : List AI := [o 67 (.ld true 12 13), n (.st 12 8 67), o 9 (.mov (k 0))]
def c : ACode := (.seq (.dr (.ops r0 false) [2,3,9] []) (.seq (.seq (.dr (.ops r1 false) [15,16,17,18,19] []) (.seq (.dr (.ops r2 false) [20] []) (.cond 21 (.seq (.dr (.ops r3 false) [0,1,6,7,10,21,22,23] []) .ret) .skip))) (.seq (.dr (.ops r4 false) [10,21,24,25,26,27,28,29] []) (.seq (.dr (.ops r5 false) [30,31] []) (.seq (.dr (.ops r6 true) [6,11,32,33,34,35,36,37,38,39] []) (.seq (.dr (.ops r7 false) [7,40,41,42,43] []) (.seq (.dr (.ops r8 true) [0,1,14,44,45,46,47,48,49,50,51,52,53,54,55,56,57,58,59,60,61,62] []) (.seq (.dr (.ops r9 false) [12,63,64,65,66] []) (.seq (.dr (.ops r10 false) [13,67] []) .ret)))))))))
end direct_FormTwo
def direct_FormTwo : AFn := ⟨4, direct_FormTwo.c, [.cell 8 true 12, .tmp 9], false⟩
namespace direct_Transposed
def r0 : List AI := [o 6 (.box 6 2), o 7 (.box 7 3), o 8 (.alloc 8 [z, z, z, z, z, z, z, z, z, .nil, .nil, z]), o 9 (.mov (k 0))]
def r1 : List AI := [m 17 0, m 18 1, o 19 (.ld true 4 6), o 20 (.ld true 4 7), o 21 (.call 46 [17, 18, 19, 20]), m 10 21]
def r2 : List AI := [m 22 10, o 23 (.bin .neq 22 (k 0))]
def r3 : List AI := [o 24 (.build [z, z, z, z, z, z, z, z, z, .nil, .nil, z] []), m 25 10, n (.st 12 8 24), m 9 25]
def r4 : List AI := [m 26 0, o 27 (.len 26), o 28 (.bin .sub 27 (k 1)), m 29 1, o 30 (.len 29), o 31 (.mm true [28, 30]), m 11 31]
def r5 : List AI := [m 32 11, o 33 (.bin .add 32 (k 1)), m 12 33]
def r6 : List AI := [⟨some 34, .ld true 4 6, none, [38,13]⟩, ⟨some 35, .ld true 4 7, none, [38,13]⟩, m 36 11, m 37 11, o 38 (.mk 38 1 8 [z] 37 37), m 39 12,
 o 40 (.build [z, z, z, z, z, z, z, z, z, .nil, .nil, z] [(0, 4, 34), (4, 4, 35), (8, 1, 36), (10, 1, 38), (11, 1, 39)]),
 o 13 (.alloc 13 [z, z, z, z, z, z, z, z, z, .nil, .nil, z]), n (.st 12 13 40)]
def r7 : List AI := [o 41 (.fadr 7 1), o 42 (.ld false 1 41), o 43 (.bin .shl (k 1) 42), o 44 (.bslice 44 1 [43]), m 14 44]
def r8 : List AI := [m 45 11, o 46 (.bin .add 45 (k 1)), o 47 (.mov (k 0))]
def r9 : List AI := [o 48 (.bin .lss 47 46)]
def r10 : List AI := [m 49 47, m 15 49]
def r11 : List AI := [o 16 (.mov (.c .nil))]
def r12 : List AI := [m 50 15, m 51 0, o 52 (.len 51), o 53 (.bin .lss 50 52)]
def r13 : List AI := [m 54 16, m 55 0, m 56 15, m 57 15, o 58 (.bin .add 57 (k 1)), o 59 (.slc 1 55 (some 56) (some 58)), o 60 (.call 47 [59, (k 1), (k 0)]),
 o 61 (.bslice 61 1 [54, 60]), o 62 (.call 48 [61]), m 16 62]
def r14 : List AI := [m 63 15, o 64 (.bin .geq 63 (k 1)), m 65 64, g 66 65 true (.mov 15), g 67 65 true (.mov 1), g 68 65 true (.len 67), g 69 65 true (.bin .leq 66 68),
 o 70 (.pick 65 69 (.c (.bool false)))]
def r15 : List AI := [m 71 16, m 72 1, m 73 15, o 74 (.bin .sub 73 (k 1)), m 75 15, o 76 (.slc 1 72 (some 74) (some 75)), m 77 12, o 78 (.call 47 [76, (k (-1)), 77]),
 o 79 (.bslice 79 1 [71, 78]), o 80 (.call 48 [79]), m 16 80]
def r16 : List AI := [m 81 15, m 82 11, o 83 (.bin .lss 81 82)]
def r17 : List AI := [m 84 16, m 85 14, m 86 15, o 87 (.bin .add 86 (k 1)), o 88 (.call 47 [85, (k 1), 87]), o 89 (.bslice 89 1 [84, 88]), o 90 (.call 48 [89]), m 16 90]
def r18 : List AI := [m 91 15, o 92 (.bin .geq 91 (k 1))]
def r19 : List AI := [o 93 (.fadr 13 10), o 94 (.ld false 1 93), m 95 15, o 96 (.bin .sub 95 (k 1)), m 97 12, m 98 15, o 99 (.bin .add 97 98), o 100 (.iadr none 1 94 96),
 n (.st 1 100 99)]
def r20 : List AI := [o 101 (.fadr 13 9), o 102 (.ld false 1 101), m 103 16, o 104 (.build [.nil] [(0, 1, 103)]), o 105 (.bslice 105 1 [104]), o 106 (.app 106 1 24 102 105),
 o 107 (.fadr 13 9), n (.st 1 107 106)]
def r21 : List AI := [o 108 (.bin .add 47 (k 1)), m 47 108]
def r22 : List AI := [o 109 (.ld true 12 13), n (.st 12 8 109), o 9 (.mov (k 0))]
def l1 : ACode := (.seq (.ops r9 false) (.seq (.cond 48 .skip (.exit 0)) (.seq (.block 1 (.seq (.dr (.ops r10 false) [48,49] []) (.seq (.ops r11 false) (.seq (.seq (.dr (.ops r12 false) [50,51,52] []) (.cond 53 (.dr (.ops r13 false) [53,54,55,56,57,58,59,60,61,62] []) .skip)) (.seq (.seq (.dr (.ops r14 false) [53,63,64,65,66,67,68,69] []) (.cond 70 (.dr (.ops r15 false) [70,71,72,73,74,75,76,77,78,79,80] []) .skip)) (.seq (.seq (.dr (.ops r16 false) [70,81,82] []) (.cond 83 (.dr (.ops r17 false) [83,84,85,86,87,88,89,90] []) .skip)) (.seq (.seq (.dr (.ops r18 false) [83,91] []) (.cond 92 (.dr (.ops r19 false) [15,92,93,94,95,96,97,98,99,100] []) .skip)) (.dr (.ops r20 false) [15,16,92,101,102,103,104,105,106,107] [])))))))) (.dr (.ops r21 false) [108] []))))
def c : ACode := (.seq (.dr (.ops r0 false) [2,3,9] []) (.seq (.seq (.dr (.ops r1 false) [17,18,19,20,21] []) (.seq (.dr (.ops r2 false) [22] []) (.cond 23 (.seq (.dr (.ops r3 false) [0,1,6,7,10,23,24,25] []) .ret) .skip))) (.seq (.dr (.ops r4 false) [10,23,26,27,28,29,30,31] []) (.seq (.dr (.ops r5 false) [32,33] []) (.seq (.dr (.ops r6 true) [6,34,35,36,37,38,39,40] []) (.seq (.dr (.ops r7 false) [7,41,42,43,44] []) (.seq (.seq (.dr (.ops r8 false) [45] []) (.block 0 (.loop l1))) (.seq (.dr (.ops r22 false) [0,1,11,12,13,14,46,47,48,109] []) .ret))))))))
end direct_Transposed
def direct_Transposed : AFn := ⟨4, direct_Transposed.c, [.cell 8 true 12, .tmp 9], false⟩
namespace direct_FIR
def r0 : List AI := [o 4 (.box 4 1), o 5 (.box 5 2), o 6 (.alloc 6 [z, z, z, z, z, z, z, z, z, .nil, .nil, z]), o 7 (.mov (k 0))]
def r1 : List AI := [m 8 0, o 9 (.ld true 4 4), o 10 (.ld true 4 5), o 11 (.call 50 [8, (.c .nil), 9, 10]), o 12 (.ext 11 0), o 13 (.ext 11 1), n (.st 12 6 12), m 7 13]
def c : ACode := (.seq (.dr (.ops r0 false) [1,2,7] []) (.seq (.dr (.ops r1 false) [0,4,5,8,9,10,11,12,13] []) .ret))
end direct_FIR
def direct_FIR : AFn := ⟨3, direct_FIR.c, [.cell 6 true 12, .tmp 7], false⟩
namespace law23_known
def r0 : List AI := [o 0 (.mov (.c (.bool false)))]
def r1 : List AI := [o 9 (.build [z, z, z, z] [(0, 1, (k 8)), (1, 1, (k 0)), (2, 1, (k 1)), (3, 1, (k 1))]), o 1 (.alloc 1 [z, z, z, z]), n (.st 4 1 9)]
def r2 : List AI := [o 10 (.build [z, z, z, z] [(0, 1, (k 8)), (1, 1, (k 4)), (2, 1, (k 1)), (3, 1, (k 1))]), o 2 (.alloc 2 [z, z, z, z]), n (.st 4 2 10)]
def r3 : List AI := [o 12 (.bslice 12 1 [(k 8)]), o 13 (.bslice 13 1 [(k (-4))]), o 14 (.ld true 4 1), o 15 (.ld true 4 2), o 16 (.call 50 [12, 13, 14, 15]), m 11 16,
 o 17 (.ext 11 0), o 18 (.ext 11 1), o 3 (.alloc 3 [z, z, z, z, z, z, z, z, z, .nil, .nil, z]), n (.st 12 3 17), m 4 18]
def r4 : List AI := [o 20 (.ld true 12 3), o 21 (.bslice 21 1 [(k 0)]), o 22 (.bslice 22 1 [(k 16), (k 0), (k 0)]), o 23 (.call 43 [20, 21, 22]), m 19 23, o 24 (.ext 19 0),
 o 25 (.ext 19 1), o 26 (.ext 19 2), o 27 (.ext 19 3), m 5 24, m 6 25, m 7 26, m 8 27]
def r5 : List AI := [m 28 4, o 29 (.bin .eql 28 (k 0)), m 30 29, g 31 30 true (.mov 8), g 32 30 true (.bin .eql 31 (k 0)), o 33 (.pick 30 32 (.c (.bool false))), m 34 33,
 g 35 34 true (.mov 5), g 36 34 true (.bslice 36 1 [(k 8), (k 2), (k 0)]), g 37 34 true (.call 20 [35, 36]), o 38 (.pick 34 37 (.c (.bool false))), m 0 38]
def c : ACode := (.seq (.dr (.ops r0 false) [0] []) (.seq (.dr (.ops r1 false) [9] []) (.seq (.dr (.ops r2 false) [10] []) (.seq (.dr (.ops r3 false) [1,2,11,12,13,14,15,16,17,18] []) (.seq (.dr (.ops r4 false) [3,6,7,19,20,21,22,23,24,25,26,27] []) (.seq (.dr (.ops r5 false) [4,5,8,28,29,30,31,32,33,34,35,36,37,38] []) .ret))))))
end law23_known
def law23_known : AFn := ⟨0, law23_known.c, [.tmp 0], false⟩
structure DirectGLib (L : Lib) : Prop extends RunGLib L where
 direct_wrong : L 46 = some F.direct_wrong
 direct_row : L 47 = some F.direct_row
 direct_join : L 48 = some F.direct_join
 direct_delay : L 49 = some F.direct_delay
 direct_FormOne : L 50 = some F.direct_FormOne
 direct_FormTwo : L 51 = some F.direct_FormTwo
 direct_Transposed : L 52 = some F.direct_Transposed
 direct_FIR : L 53 = some F.direct_FIR
 law23_known : L 54 = some F.law23_known
end Go.Eng.F

namespace Go.Eng.F
open C
namespace rational_Frac
def r0 : List AI := [o 4 (.alloc 4 [(.bool false), .nil, .nil])]
def r1 : List AI := [m 5 1, o 6 (.bin .eql 5 (k 0))]
def r2 : List AI := [o 7 (.call 96 [(k 0)]), n (.st 3 4 7)]
def r3 : List AI := [m 8 0, o 9 (.call 85 [8]), m 10 1, o 11 (.call 85 [10]), o 12 (.calli 93 [9, 11]), o 13 (.call 94 [12]), n (.st 3 4 13)]
def c : ACode := (.seq (.ops r0 false) (.seq (.seq (.dr (.ops r1 false) [5] []) (.cond 6 (.seq (.dr (.ops r2 false) [0,1,6,7] []) .ret) .skip)) (.seq (.dr (.ops r3 false) [0,1,6,8,9,10,11,12,13] []) .ret)))
end rational_Frac
def rational_Frac : AFn := ⟨2, rational_Frac.c, [.cell 4 true 3], false⟩
structure RatHLib (L : Lib) : Prop extends RatGLib L where
 rational_Frac : L 151 = some F.rational_Frac
end Go.Eng.F

namespace Go.Eng.F
open C
namespace ref03_Sign
def r0 : List AI := [o 1 (.box 1 0), o 2 (.mov (k 0))]
def r1 : List AI := [o 6 (.ld true 3 1), o 7 (.call 122 [6]), m 5 7, o 8 (.ext 5 0), o 9 (.ext 5 1), o 3 (.alloc 3 [(.bool false), .nil]), o 4 (.alloc 4 [(.bool false), .nil]),
 n (.st 2 3 8), n (.st 2 4 9)]
def r2 : List AI := [o 10 (.ld true 2 3), o 11 (.call 113 [10]), m 2 11]
def c : ACode := (.seq (.dr (.ops r0 false) [0,2] []) (.seq (.dr (.ops r1 false) [1,4,5,6,7,8,9] []) (.seq (.dr (.ops r2 false) [3,10,11] []) .ret)))
end ref03_Sign
def ref03_Sign : AFn := ⟨1, ref03_Sign.c, [.tmp 2], false⟩
namespace ref01_Same
def r0 : List AI := [o 4 (.mov (.c (.bool false)))]
def r1 : List AI := [m 6 0, o 7 (.len 6), m 8 1, o 9 (.len 8), o 10 (.bin .neq 7 9)]
def r2 : List AI := [o 4 (.mov (.c (.bool false)))]
def r3 : List AI := [o 5 (.mov (k 0))]
def r4 : List AI := [m 11 5, m 12 0, o 13 (.len 12), o 14 (.bin .lss 11 13)]
def r6 : List AI := [m 17 0, m 18 5, o 19 (.iadr none 1 17 18), o 20 (.ld false 1 19), m 21 1, m 22 5, o 23 (.iadr none 1 21 22), o 24 (.ld false 1 23), o 25 (.bin .neq 20 24)]
def r7 : List AI := [o 4 (.mov (.c (.bool false)))]
def r5 : List AI := [m 15 5, o 16 (.bin .add 15 (k 1)), m 5 16]
def r8 : List AI := [o 4 (.mov (.c (.bool true)))]
def l1 : ACode := (.seq (.seq (.dr (.ops r4 false) [11,12,13] []) (.cond 14 .skip (.exit 0))) (.seq (.block 1 (.seq (.dr (.ops r6 true) [14,17,18,19,20,21,22,23,24] []) (.cond 25 (.seq (.dr (.ops r7 false) [0,1,5,25] []) .ret) .skip))) (.dr (.ops r5 false) [15,16,25] [])))
def c : ACode := (.seq (.dr (.ops r0 false) [4] []) (.seq (.seq (.dr (.ops r1 false) [6,7,8,9] []) (.cond 10 (.seq (.dr (.ops r2 false) [0,1,10] []) .ret) .skip)) (.seq (.seq (.dr (.ops r3 false) [10] []) (.block 0 (.loop l1))) (.seq (.dr (.ops r8 false) [0,1,5,14] []) .ret))))
end ref01_Same
def ref01_Same : AFn := ⟨2, ref01_Same.c, [.tmp 4], false⟩
namespace ref02_Same
def r0 : List AI := [o 2 (.box 2 0), o 3 (.box 3 1), o 4 (.mov (.c (.bool false)))]
def r1 : List AI := [o 5 (.fadr 2 0), o 6 (.ld false 1 5), o 7 (.fadr 3 0), o 8 (.ld false 1 7), o 9 (.beq false 6 8), m 10 9, g 11 10 true (.fadr 2 1),
 g 12 10 true (.ld false 1 11), g 13 10 true (.fadr 3 1), g 14 10 true (.ld false 1 13), g 15 10 true (.call 156 [12, 14]),
 o 16 (.pick 10 15 (.c (.bool false))), m 4 16]
def c : ACode := (.seq (.dr (.ops r0 false) [0,1,4] []) (.seq (.dr (.ops r1 false) [2,3,5,6,7,8,9,10,11,12,13,14,15,16] []) .ret))
end ref02_Same
def ref02_Same : AFn := ⟨2, ref02_Same.c, [.tmp 4], false⟩
namespace ref03_Same
def r0 : List AI := [o 2 (.box 2 0), o 3 (.box 3 1), o 4 (.mov (.c (.bool false)))]
def r1 : List AI := [o 5 (.fadr 2 0), o 6 (.ld true 2 5), o 7 (.fadr 3 0), o 8 (.ld true 2 7), o 9 (.call 157 [6, 8]), m 10 9, g 11 10 true (.fadr 2 2),
 g 12 10 true (.ld false 1 11), g 13 10 true (.fadr 3 2), g 14 10 true (.ld false 1 13), g 15 10 true (.call 156 [12, 14]),
 o 16 (.pick 10 15 (.c (.bool false))), m 4 16]
def c : ACode := (.seq (.dr (.ops r0 false) [0,1,4] []) (.seq (.dr (.ops r1 false) [2,3,5,6,7,8,9,10,11,12,13,14,15,16] []) .ret))
end ref03_Same
def ref03_Same : AFn := ⟨2, ref03_Same.c, [.tmp 4], false⟩
namespace ref03_SameList
def r0 : List AI := [o 4 (.mov (.c (.bool false)))]
def r1 : List AI := [m 6 0, o 7 (.len 6), m 8 1, o 9 (.len 8), o 10 (.bin .neq 7 9)]
def r2 : List AI := [o 4 (.mov (.c (.bool false)))]
def r3 : List AI := [o 5 (.mov (k 0))]
def r4 : List AI := [m 11 5, m 12 0, o 13 (.len 12), o 14 (.bin .lss 11 13)]
def r6 : List AI := [m 17 0, m 18 5, o 19 (.iadr none 3 17 18), o 20 (.ld true 3 19), m 21 1, m 22 5, o 23 (.iadr none 3 21 22), o 24 (.ld true 3 23), o 25 (.call 158 [20, 24]),
 o 26 (.un .not 25)]
def r7 : List AI := [o 4 (.mov (.c (.bool false)))]
def r5 : List AI := [m 15 5, o 16 (.bin .add 15 (k 1)), m 5 16]
def r8 : List AI := [o 4 (.mov (.c (.bool true)))]
def l1 : ACode := (.seq (.seq (.dr (.ops r4 false) [11,12,13] []) (.cond 14 .skip (.exit 0))) (.seq (.block 1 (.seq (.dr (.ops r6 true) [14,17,18,19,20,21,22,23,24,25] []) (.cond 26 (.seq (.dr (.ops r7 false) [0,1,5,26] []) .ret) .skip))) (.dr (.ops r5 false) [15,16,26] [])))
def c : ACode := (.seq (.dr (.ops r0 false) [4] []) (.seq (.seq (.dr (.ops r1 false) [6,7,8,9] []) (.cond 10 (.seq (.dr (.ops r2 false) [0,1,10] []) .ret) .skip)) (.seq (.seq (.dr (.ops r3 false) [10] []) (.block 0 (.loop l1))) (.seq (.dr (.ops r8 false) [0,1,5,14] []) .ret))))
end ref03_SameList
def ref03_SameList : AFn := ⟨2, ref03_SameList.c, [.tmp 4], false⟩
structure RefHLib (L : Lib) : Prop extends RefGLib L where
 ref03_Sign : L 155 = some F.ref03_Sign
 ref01_Same : L 156 = some F.ref01_Same
 ref02_Same : L 157 = some F.ref02_Same
 ref03_Same : L 158 = some F.ref03_Same
 ref03_SameList : L 159 = some F.ref03_SameList
end Go.Eng.F

namespace Go.Eng.F
open C
namespace poly_cut
def r0 : List AI := [o 2 (.mov (.c .nil))]
def r1 : List AI := [m 4 0, o 5 (.len 4), m 3 5]
def r2 : List AI := [m 6 3, o 7 (.bin .gtr 6 (k 0)), m 8 7, g 9 8 true (.mov 0), g 10 8 true (.mov 3), g 11 8 true (.bin .sub 10 (k 1)), g 12 8 true (.iadr none 3 9 11),
 g 13 8 true (.ld true 3 12), g 14 8 true (.call 97 [13]), g 15 8 true (.bin .eql 14 (k 0)), o 16 (.pick 8 15 (.c (.bool false)))]
def r3 : List AI := [m 17 3, o 18 (.bin .sub 17 (k 1)), m 3 18]
def r4 : List AI := [m 19 0, m 20 3, o 21 (.slc 3 19 none (some 20)), m 2 21]
def l1 : ACode := (.seq (.seq (.dr (.ops r2 false) [6,7,8,9,10,11,12,13,14,15] []) (.cond 16 .skip (.exit 0))) (.block 1 (.dr (.ops r3 false) [16,17,18] [])))
def c : ACode := (.seq (.dr (.ops r0 false) [2] []) (.seq (.dr (.ops r1 false) [4,5] []) (.seq (.block 0 (.loop l1)) (.seq (.dr (.ops r4 false) [0,3,16,19,20,21] []) .ret))))
end poly_cut
def poly_cut : AFn := ⟨1, poly_cut.c, [.tmp 2], false⟩
namespace poly_Trim
def r0 : List AI := [o 2 (.mov (.c .nil))]
def r1 : List AI := [m 5 0, o 6 (.calli 169 [5]), o 7 (.len 6), o 8 (.mk 170008 3 56 [(.bool false), .nil, .nil] 7 7), m 3 8]
def r2 : List AI := [m 9 3, o 10 (.len 9), o 11 (.mov (k 0))]
def r3 : List AI := [o 12 (.bin .lss 11 10)]
def r4 : List AI := [m 13 11, m 4 13]
def r5 : List AI := [m 14 3, m 15 4, m 16 0, m 17 4, o 18 (.iadr none 3 16 17), o 19 (.ld true 3 18), o 20 (.call 95 [19]), o 21 (.iadr none 3 14 15), n (.st 3 21 20)]
def r6 : List AI := [o 22 (.bin .add 11 (k 1)), m 11 22]
def r7 : List AI := [m 23 3, m 2 23]
def l1 : ACode := (.seq (.ops r3 false) (.seq (.cond 12 .skip (.exit 0)) (.seq (.block 1 (.seq (.dr (.ops r4 false) [12,13] []) (.dr (.ops r5 false) [4,14,15,16,17,18,19,20,21] []))) (.dr (.ops r6 false) [22] []))))
def c : ACode := (.seq (.dr (.ops r0 false) [2] []) (.seq (.dr (.ops r1 false) [5,6,7,8] []) (.seq (.seq (.dr (.ops r2 false) [9] []) (.block 0 (.loop l1))) (.seq (.dr (.ops r7 false) [0,3,10,11,12,23] []) .ret))))
end poly_Trim
def poly_Trim : AFn := ⟨1, poly_Trim.c, [.tmp 2], false⟩
structure PolyGLib (L : Lib) : Prop extends RatGLib L where
 poly_cut : L 169 = some F.poly_cut
 poly_Trim : L 170 = some F.poly_Trim
end Go.Eng.F

namespace Go.Eng.F
open C
namespace ref05_Trim
def r0 : List AI := [o 2 (.mov (.c .nil))]
def r1 : List AI := [m 7 0, o 8 (.len 7), m 3 8]
def r2 : List AI := [m 9 3, o 10 (.bin .gtr 9 (k 0)), m 11 10, g 12 11 true (.mov 0), g 13 11 true (.mov 3), g 14 11 true (.bin .sub 13 (k 1)), g 15 11 true (.iadr none 3 12 14),
 g 16 11 true (.ld true 3 15), g 17 11 true (.call 155 [16]), g 18 11 true (.bin .eql 17 (k 0)), o 19 (.pick 11 18 (.c (.bool false)))]
def r3 : List AI := [m 20 3, o 21 (.bin .sub 20 (k 1)), m 3 21]
def r4 : List AI := [o 4 (.vrow 171004 3)]
def r5 : List AI := [m 22 0, m 23 3, o 24 (.slc 3 22 none (some 23)), o 25 (.len 24), o 26 (.mov (k 0))]
def r6 : List AI := [o 27 (.bin .lss 26 25)]
def r7 : List AI := [o 28 (.iadr none 3 24 26), o 29 (.ld true 3 28), o 6 (.alloc 171006 [(.bool false), .nil, .nil]), n (.st 3 6 29)]
def r8 : List AI := [m 30 4, o 31 (.ld true 3 6), o 32 (.call 123 [31]), o 33 (.bslice 171033 3 [32]), o 34 (.app 171034 3 56 30 33), m 4 34]
def r9 : List AI := [o 35 (.bin .add 26 (k 1)), m 26 35]
def r10 : List AI := [m 36 4, m 2 36]
def l1 : ACode := (.seq (.seq (.dr (.ops r2 false) [9,10,11,12,13,14,15,16,17,18] []) (.cond 19 .skip (.exit 0))) (.block 1 (.dr (.ops r3 false) [19,20,21] [])))
def l2 : ACode := (.seq (.ops r6 false) (.seq (.cond 27 .skip (.exit 2)) (.seq (.block 3 (.seq (.dr (.ops r7 false) [27,28,29] []) (.dr (.ops r8 false) [6,30,31,32,33,34] []))) (.dr (.ops r9 false) [35] []))))
def c : ACode := (.seq (.dr (.ops r0 false) [2] []) (.seq (.dr (.ops r1 false) [7,8] []) (.seq (.block 0 (.loop l1)) (.seq (.dr (.ops r4 false) [19] []) (.seq (.seq (.dr (.ops r5 false) [0,3,22,23] []) (.block 2 (.loop l2))) (.seq (.dr (.ops r10 false) [4,24,25,26,27,36] []) .ret))))))
end ref05_Trim
def ref05_Trim : AFn := ⟨1, ref05_Trim.c, [.tmp 2], false⟩
namespace ref05_Equal
def r0 : List AI := [o 4 (.mov (.c (.bool false)))]
def r1 : List AI := [m 5 0, m 6 1, o 7 (.call 159 [5, 6]), m 4 7]
def c : ACode := (.seq (.dr (.ops r0 false) [4] []) (.seq (.dr (.ops r1 false) [0,1,5,6,7] []) .ret))
end ref05_Equal
def ref05_Equal : AFn := ⟨2, ref05_Equal.c, [.tmp 4], false⟩
namespace ref05_Same
def r0 : List AI := [o 4 (.mov (.c (.bool false)))]
def r1 : List AI := [m 5 0, o 6 (.call 171 [5]), m 7 1, o 8 (.call 171 [7]), o 9 (.call 172 [6, 8]), m 4 9]
def c : ACode := (.seq (.dr (.ops r0 false) [4] []) (.seq (.dr (.ops r1 false) [0,1,5,6,7,8,9] []) .ret))
end ref05_Same
def ref05_Same : AFn := ⟨2, ref05_Same.c, [.tmp 4], false⟩
structure R05GLib (L : Lib) : Prop extends RefHLib L where
 ref05_Trim : L 171 = some F.ref05_Trim
 ref05_Equal : L 172 = some F.ref05_Equal
 ref05_Same : L 173 = some F.ref05_Same
end Go.Eng.F

namespace Go.Eng.F
open C
namespace direct_Ideal
def r0 : List AI := [o 5 (.box 5 2), o 6 (.alloc 6 [.nil, .nil]), o 7 (.mov (k 0))]
def r1 : List AI := [m 15 0, m 16 1, o 17 (.ld true 4 5), o 18 (.ld true 4 5), o 19 (.call 46 [15, 16, 17, 18]), m 8 19]
def r2 : List AI := [m 20 8, o 21 (.bin .neq 20 (k 0))]
def r3 : List AI := [o 22 (.build [.nil, .nil] []), m 23 8, n (.st 2 6 22), m 7 23]
def r4 : List AI := [m 24 0, o 25 (.len 24), o 26 (.mk 26 3 56 [(.bool false), .nil, .nil] 25 25), m 9 26]
def r5 : List AI := [m 27 0, o 28 (.len 27), o 29 (.mov (k 0))]
def r6 : List AI := [o 30 (.bin .lss 29 28)]
def r7 : List AI := [m 31 29, o 32 (.iadr none 1 27 29), o 33 (.ld false 1 32), m 10 31, m 11 33]
def r8 : List AI := [m 34 9, m 35 10, o 36 (.ld true 4 5), m 37 11, o 38 (.call 175 [36, 37]), o 39 (.iadr none 3 34 35), n (.st 3 39 38)]
def r9 : List AI := [o 40 (.bin .add 29 (k 1)), m 29 40]
def r10 : List AI := [o 41 (.call 96 [(k 1)]), o 42 (.bslice 42 3 [41]), m 12 42]
def r11 : List AI := [m 43 1, o 44 (.len 43), o 45 (.mov (k 0))]
def r12 : List AI := [o 46 (.bin .lss 45 44)]
def r13 : List AI := [o 47 (.iadr none 1 43 45), o 48 (.ld false 1 47), m 14 48]
def r14 : List AI := [m 49 12, o 50 (.ld true 4 5), m 51 14, o 52 (.call 175 [50, 51]), o 53 (.bslice 53 3 [52]), o 54 (.app 54 3 56 49 53), m 12 54]
def r15 : List AI := [o 55 (.bin .add 45 (k 1)), m 45 55]
def r16 : List AI := [m 56 9, o 57 (.calli 170 [56]), m 58 12, o 59 (.calli 170 [58]), o 60 (.build [.nil, .nil] [(0, 1, 57), (1, 1, 59)]), n (.st 2 6 60), o 7 (.mov (k 0))]
def l1 : ACode := (.seq (.ops r6 false) (.seq (.cond 30 .skip (.exit 0)) (.seq (.block 1 (.seq (.dr (.ops r7 false) [30,31,32,33] []) (.dr (.ops r8 false) [10,11,34,35,36,37,38,39] []))) (.dr (.ops r9 false) [40] []))))
def l2 : ACode := (.seq (.ops r12 false) (.seq (.cond 46 .skip (.exit 2)) (.seq (.block 3 (.seq (.dr (.ops r13 false) [46,47,48] []) (.dr (.ops r14 false) [14,49,50,51,52,53,54] []))) (.dr (.ops r15 false) [55] []))))
def c : ACode := (.seq (.dr (.ops r0 false) [2,7] []) (.seq (.seq (.dr (.ops r1 false) [15,16,17,18,19] []) (.seq (.dr (.ops r2 false) [20] []) (.cond 21 (.seq (.dr (.ops r3 false) [0,1,5,8,21,22,23] []) .ret) .skip))) (.seq (.dr (.ops r4 false) [8,21,24,25,26] []) (.seq (.seq (.dr (.ops r5 false) [0] []) (.block 0 (.loop l1))) (.seq (.dr (.ops r10 false) [27,28,29,30,41,42] []) (.seq (.seq (.dr (.ops r11 false) [1] []) (.block 2 (.loop l2))) (.seq (.dr (.ops r16 false) [5,9,12,43,44,45,46,56,57,58,59,60] []) .ret)))))))
end direct_Ideal
def direct_Ideal : AFn := ⟨3, direct_Ideal.c, [.cell 6 true 2, .tmp 7], false⟩
namespace fixed_Value
def r0 : List AI := [o 2 (.box 2 0), o 4 (.alloc 4 [(.bool false), .nil, .nil])]
def r1 : List AI := [o 5 (.ld true 4 2), o 6 (.call 2 [5]), o 7 (.un .not 6)]
def r2 : List AI := [o 8 (.call 96 [(k 0)]), n (.st 3 4 8)]
def r3 : List AI := [m 9 1, o 10 (.fadr 2 1), o 11 (.ld false 1 10), o 12 (.bin .shl (k 1) 11), o 13 (.call 151 [9, 12]), n (.st 3 4 13)]
def c : ACode := (.seq (.dr (.ops r0 false) [0] []) (.seq (.seq (.dr (.ops r1 false) [5,6] []) (.cond 7 (.seq (.dr (.ops r2 false) [1,2,7,8] []) .ret) .skip)) (.seq (.dr (.ops r3 false) [1,2,7,9,10,11,12,13] []) .ret)))
end fixed_Value
def fixed_Value : AFn := ⟨2, fixed_Value.c, [.cell 4 true 3], false⟩
namespace ref22_SameFilters
def r0 : List AI := [o 2 (.box 2 0), o 3 (.box 3 1), o 4 (.mov (.c (.bool false)))]
def r1 : List AI := [o 5 (.fadr 2 0), o 6 (.ld false 1 5), o 7 (.fadr 3 0), o 8 (.ld false 1 7), o 9 (.call 173 [6, 8]), m 10 9, g 11 10 true (.fadr 2 1),
 g 12 10 true (.ld false 1 11), g 13 10 true (.fadr 3 1), g 14 10 true (.ld false 1 13), g 15 10 true (.call 173 [12, 14]),
 o 16 (.pick 10 15 (.c (.bool false))), m 4 16]
def c : ACode := (.seq (.dr (.ops r0 false) [0,1,4] []) (.seq (.dr (.ops r1 false) [2,3,5,6,7,8,9,10,11,12,13,14,15,16] []) .ret))
end ref22_SameFilters
def ref22_SameFilters : AFn := ⟨2, ref22_SameFilters.c, [.tmp 4], false⟩
namespace ref22_SameNets
def r0 : List AI := [o 2 (.box 2 0), o 3 (.box 3 1), o 4 (.mov (.c (.bool false)))]
def r1 : List AI := [o 7 (.fadr 2 0), o 8 (.ld true 4 7), o 9 (.fadr 3 0), o 10 (.ld true 4 9), o 11 (.aeq true 4 8 10), m 12 11, g 13 12 false (.fadr 2 4),
 g 14 12 false (.ld true 4 13), g 15 12 false (.fadr 3 4), g 16 12 false (.ld true 4 15), g 17 12 false (.aeq true 4 14 16),
 o 18 (.pick 12 (.c (.bool true)) 17), m 19 18, g 20 19 false (.fadr 2 8), g 21 19 false (.ld false 1 20), g 22 19 false (.fadr 3 8),
 g 23 19 false (.ld false 1 22), g 24 19 false (.bin .neq 21 23), o 25 (.pick 19 (.c (.bool true)) 24), m 26 25, g 27 26 false (.fadr 2 11),
 g 28 26 false (.ld false 1 27), g 29 26 false (.fadr 3 11), g 30 26 false (.ld false 1 29), g 31 26 false (.bin .neq 28 30),
 o 32 (.pick 26 (.c (.bool true)) 31), m 33 32, g 34 33 false (.fadr 2 10), g 35 33 false (.ld false 1 34), g 36 33 false (.fadr 3 10),
 g 37 33 false (.ld false 1 36), g 38 33 false (.call 20 [35, 37]), g 39 33 false (.un .not 38), o 40 (.pick 33 (.c (.bool true)) 39), m 41 40,
 g 42 41 false (.fadr 2 9), g 43 41 false (.ld false 1 42), g 44 41 false (.len 43), g 45 41 false (.fadr 3 9), g 46 41 false (.ld false 1 45),
 g 47 41 false (.len 46), g 48 41 false (.bin .neq 44 47), o 49 (.pick 41 (.c (.bool true)) 48)]
def r2 : List AI := [o 4 (.mov (.c (.bool false)))]
def r3 : List AI := [o 5 (.mov (k 0))]
def r4 : List AI := [m 50 5, o 51 (.fadr 2 9), o 52 (.ld false 1 51), o 53 (.len 52), o 54 (.bin .lss 50 53)]
def r6 : List AI := [o 57 (.fadr 2 9), o 58 (.ld false 1 57), m 59 5, o 60 (.iadr none 1 58 59), o 61 (.fadr 60 0), o 62 (.ld false 1 61), o 63 (.len 62), o 64 (.fadr 3 9),
 o 65 (.ld false 1 64), m 66 5, o 67 (.iadr none 1 65 66), o 68 (.fadr 67 0), o 69 (.ld false 1 68), o 70 (.len 69), o 71 (.bin .neq 63 70)]
def r7 : List AI := [o 4 (.mov (.c (.bool false)))]
def r8 : List AI := [o 6 (.mov (k 0))]
def r9 : List AI := [m 72 6, o 73 (.fadr 2 9), o 74 (.ld false 1 73), m 75 5, o 76 (.iadr none 1 74 75), o 77 (.fadr 76 0), o 78 (.ld false 1 77), o 79 (.len 78),
 o 80 (.bin .lss 72 79)]
def r11 : List AI := [o 83 (.fadr 2 9), o 84 (.ld false 1 83), m 85 5, o 86 (.iadr none 1 84 85), o 87 (.fadr 86 0), o 88 (.ld false 1 87), m 89 6, o 90 (.iadr none 2 88 89),
 o 91 (.ld true 2 90), o 92 (.fadr 3 9), o 93 (.ld false 1 92), m 94 5, o 95 (.iadr none 1 93 94), o 96 (.fadr 95 0), o 97 (.ld false 1 96), m 98 6,
 o 99 (.iadr none 2 97 98), o 100 (.ld true 2 99), o 101 (.aeq true 2 91 100)]
def r12 : List AI := [o 4 (.mov (.c (.bool false)))]
def r10 : List AI := [m 81 6, o 82 (.bin .add 81 (k 1)), m 6 82]
def r5 : List AI := [m 55 5, o 56 (.bin .add 55 (k 1)), m 5 56]
def r13 : List AI := [o 4 (.mov (.c (.bool true)))]
def l2 : ACode := (.seq (.seq (.dr (.ops r9 false) [72,73,74,75,76,77,78,79] []) (.cond 80 .skip (.exit 2))) (.seq (.block 3 (.seq (.dr (.ops r11 true) [80,83,84,85,86,87,88,89,90,91,92,93,94,95,96,97,98,99,100] []) (.cond 101 (.seq (.dr (.ops r12 false) [2,3,5,6,101] []) .ret) .skip))) (.dr (.ops r10 false) [81,82,101] [])))
def l1 : ACode := (.seq (.seq (.dr (.ops r4 false) [50,51,52,53] []) (.cond 54 .skip (.exit 0))) (.seq (.block 1 (.seq (.seq (.dr (.ops r6 true) [54,57,58,59,60,61,62,63,64,65,66,67,68,69,70] []) (.cond 71 (.seq (.dr (.ops r7 false) [2,3,5,71] []) .ret) .skip)) (.seq (.dr (.ops r8 false) [71] []) (.block 2 (.loop l2))))) (.dr (.ops r5 false) [6,55,56,80] [])))
def c : ACode := (.seq (.dr (.ops r0 false) [0,1,4] []) (.seq (.seq (.dr (.ops r1 false) [7,8,9,10,11,12,13,14,15,16,17,18,19,20,21,22,23,24,25,26,27,28,29,30,31,32,33,34,35,36,37,38,39,40,41,42,43,44,45,46,47,48] []) (.cond 49 (.seq (.dr (.ops r2 false) [2,3,49] []) .ret) .skip)) (.seq (.seq (.dr (.ops r3 false) [49] []) (.block 0 (.loop l1))) (.seq (.dr (.ops r13 false) [2,3,5,54] []) .ret))))
end ref22_SameNets
def ref22_SameNets : AFn := ⟨2, ref22_SameNets.c, [.tmp 4], false⟩
namespace ref23_opposite
def r0 : List AI := [o 2 (.mov (.c .nil))]
def r1 : List AI := [o 3 (.vrow 3 1)]
def r2 : List AI := [o 4 (.mov (k 0))]
def r3 : List AI := [m 5 4, m 6 0, o 7 (.len 6), o 8 (.bin .lss 5 7)]
def r5 : List AI := [m 11 3, m 12 0, m 13 4, o 14 (.iadr none 1 12 13), o 15 (.ld false 1 14), o 16 (.un .neg 15), o 17 (.bslice 17 1 [16]), o 18 (.app 18 1 8 11 17), m 3 18]
def r4 : List AI := [m 9 4, o 10 (.bin .add 9 (k 1)), m 4 10]
def r6 : List AI := [m 19 3, m 2 19]
def l1 : ACode := (.seq (.seq (.dr (.ops r3 false) [5,6,7] []) (.cond 8 .skip (.exit 0))) (.seq (.block 1 (.dr (.ops r5 false) [8,11,12,13,14,15,16,17,18] [])) (.dr (.ops r4 false) [9,10] [])))
def c : ACode := (.seq (.dr (.ops r0 false) [2] []) (.seq (.ops r1 false) (.seq (.seq (.ops r2 false) (.block 0 (.loop l1))) (.seq (.dr (.ops r6 false) [0,3,4,8,19] []) .ret))))
end ref23_opposite
def ref23_opposite : AFn := ⟨1, ref23_opposite.c, [.tmp 2], false⟩
namespace ref23_check
def r0 : List AI := [o 6 (.box 6 2), o 7 (.box 7 3), o 8 (.mov (k 0))]
def r1 : List AI := [o 10 (.ld true 4 6), o 11 (.call 11 [10]), o 12 (.un .not 11), m 13 12, g 14 13 false (.ld true 4 7), g 15 13 false (.call 11 [14]),
 g 16 13 false (.un .not 15), o 17 (.pick 13 (.c (.bool true)) 16), m 9 17]
def r2 : List AI := [o 8 (.mov (k 2))]
def r3 : List AI := [m 19 0, o 20 (.len 19), o 21 (.call 10 [20, (k 1), (k 49)]), o 22 (.un .not 21), m 23 22, g 24 23 false (.mov 1), g 25 23 false (.len 24),
 g 26 23 false (.bin .gtr 25 (k 8)), o 27 (.pick 23 (.c (.bool true)) 26), m 18 27]
def r4 : List AI := [o 8 (.mov (k 12))]
def r5 : List AI := [o 29 (.ld true 4 7), m 30 0, o 31 (.call 19 [29, 30]), o 32 (.un .not 31), m 33 32, g 34 33 false (.ld true 4 7), g 35 33 false (.mov 1),
 g 36 33 false (.call 19 [34, 35]), g 37 33 false (.un .not 36), o 38 (.pick 33 (.c (.bool true)) 37), m 39 38, g 40 39 false (.ld true 4 7),
 g 41 39 false (.mov 1), g 42 39 false (.call 178 [41]), g 43 39 false (.call 19 [40, 42]), g 44 39 false (.un .not 43), o 45 (.pick 39 (.c (.bool true)) 44),
 m 28 45]
def r6 : List AI := [o 8 (.mov (k 17))]
def r7 : List AI := [o 8 (.mov (k 0))]
def c : ACode := (.seq (.dr (.ops r0 false) [2,3,8] []) (.seq (.block 0 (.seq (.dr (.ops r1 false) [6,10,11,12,13,14,15,16,17] []) (.cond 9 (.seq (.dr (.ops r2 false) [0,1,7,9] []) .ret) (.seq (.dr (.ops r3 false) [9,19,20,21,22,23,24,25,26,27] []) (.cond 18 (.seq (.dr (.ops r4 false) [0,1,7,18] []) .ret) (.seq (.dr (.ops r5 true) [0,1,7,18,29,30,31,32,33,34,35,36,37,38,39,40,41,42,43,44,45] []) (.cond 28 (.seq (.dr (.ops r6 false) [28] []) .ret) .skip))))))) (.seq (.dr (.ops r7 false) [28] []) .ret)))
end ref23_check
def ref23_check : AFn := ⟨4, ref23_check.c, [.tmp 8], false⟩
namespace ref23_line
def r0 : List AI := [o 6 (.mov (.c .nil))]
def r1 : List AI := [o 7 (.vrow 7 1)]
def r2 : List AI := [o 8 (.mov (k 0))]
def r3 : List AI := [m 9 8, m 10 2, o 11 (.bin .lss 9 10)]
def r5 : List AI := [m 14 8, o 15 (.bin .eql 14 (k 0))]
def r6 : List AI := [m 16 7, m 17 0, o 18 (.bslice 18 1 [17]), o 19 (.app 19 1 8 16 18), m 7 19]
def r7 : List AI := [m 20 7, m 21 1, m 22 8, o 23 (.bin .add 21 22), o 24 (.bin .sub 23 (k 1)), o 25 (.bslice 25 1 [24]), o 26 (.app 26 1 8 20 25), m 7 26]
def r4 : List AI := [m 12 8, o 13 (.bin .add 12 (k 1)), m 8 13]
def r8 : List AI := [m 27 7, m 6 27]
def l1 : ACode := (.seq (.seq (.dr (.ops r3 false) [9,10] []) (.cond 11 .skip (.exit 0))) (.seq (.block 1 (.seq (.dr (.ops r5 false) [11,14] []) (.cond 15 (.dr (.ops r6 false) [15,16,17,18,19] []) (.dr (.ops r7 false) [15,20,21,22,23,24,25,26] [])))) (.dr (.ops r4 false) [12,13] [])))
def c : ACode := (.seq (.dr (.ops r0 false) [6] []) (.seq (.ops r1 false) (.seq (.seq (.ops r2 false) (.block 0 (.loop l1))) (.seq (.dr (.ops r8 false) [0,1,2,7,8,11,27] []) .ret))))
end ref23_line
def ref23_line : AFn := ⟨3, ref23_line.c, [.tmp 6], false⟩
namespace ref23_FormOne
def r0 : List AI := [o 6 (.box 6 2), o 7 (.box 7 3), o 8 (.alloc 8 [z, z, z, z, z, z, z, z, z, .nil, .nil, z]), o 9 (.mov (k 0))]
def r1 : List AI := [m 17 0, m 18 1, o 19 (.ld true 4 6), o 20 (.ld true 4 7), o 21 (.call 179 [17, 18, 19, 20]), m 10 21]
def r2 : List AI := [m 22 10, o 23 (.bin .neq 22 (k 0))]
def r3 : List AI := [o 24 (.build [z, z, z, z, z, z, z, z, z, .nil, .nil, z] []), m 25 10, n (.st 12 8 24), m 9 25]
def r4 : List AI := [m 26 0, o 27 (.len 26), o 28 (.bin .sub 27 (k 1)), m 29 1, o 30 (.len 29), m 11 28, m 12 30]
def r5 : List AI := [o 13 (.vrow 13 2)]
def r6 : List AI := [o 14 (.mov (k 0))]
def r7 : List AI := [m 31 14, m 32 11, o 33 (.bin .leq 31 32)]
def r9 : List AI := [m 36 13, m 37 14, m 38 0, m 39 14, o 40 (.iadr none 1 38 39), o 41 (.ld false 1 40), o 42 (.build [z, z] [(0, 1, 37), (1, 1, 41)]), o 43 (.bslice 43 2 [42]),
 o 44 (.app 44 2 16 36 43), m 13 44]
def r8 : List AI := [m 34 14, o 35 (.bin .add 34 (k 1)), m 14 35]
def r10 : List AI := [o 15 (.mov (k 0))]
def r11 : List AI := [m 45 15, m 46 12, o 47 (.bin .lss 45 46)]
def r13 : List AI := [m 50 13, m 51 11, o 52 (.bin .add (k 1) 51), m 53 15, o 54 (.bin .add 52 53), m 55 1, m 56 15, o 57 (.iadr none 1 55 56), o 58 (.ld false 1 57),
 o 59 (.un .neg 58), o 60 (.build [z, z] [(0, 1, 54), (1, 1, 59)]), o 61 (.bslice 61 2 [60]), o 62 (.app 62 2 16 50 61), m 13 62]
def r12 : List AI := [m 48 15, o 49 (.bin .add 48 (k 1)), m 15 49]
def r14 : List AI := [m 63 11, o 64 (.bin .add (k 1) 63), m 65 12, o 66 (.bin .add 64 65), m 16 66]
def r15 : List AI := [⟨some 67, .ld true 4 6, none, [74,76]⟩, ⟨some 68, .ld true 4 7, none, [74,76]⟩, m 69 11, m 70 12, o 71 (.bin .add 69 70), m 72 13,
 o 73 (.build [.nil] [(0, 1, 72)]), o 74 (.bslice 74 1 [73]), m 75 11, ⟨some 76, .callr 76 180 [(k 0), (k 1), 75], none, [74]⟩, m 77 16, m 78 11,
 o 79 (.bin .add (k 1) 78), m 80 12, ⟨some 81, .call 180 [77, 79, 80], none, [74]⟩, o 82 (.appo 76 1 8 76 81), m 83 16,
 o 84 (.build [z, z, z, z, z, z, z, z, z, .nil, .nil, z] [(0, 4, 67), (4, 4, 68), (8, 1, 71), (9, 1, 74), (10, 1, 82), (11, 1, 83)]), n (.st 12 8 84),
 o 9 (.mov (k 0))]
def l1 : ACode := (.seq (.seq (.dr (.ops r7 false) [31,32] []) (.cond 33 .skip (.exit 0))) (.seq (.block 1 (.dr (.ops r9 false) [33,36,37,38,39,40,41,42,43,44] [])) (.dr (.ops r8 false) [34,35] [])))
def l2 : ACode := (.seq (.seq (.dr (.ops r11 false) [45,46] []) (.cond 47 .skip (.exit 2))) (.seq (.block 3 (.dr (.ops r13 false) [47,50,51,52,53,54,55,56,57,58,59,60,61,62] [])) (.dr (.ops r12 false) [48,49] [])))
def c : ACode := (.seq (.dr (.ops r0 false) [2,3,9] []) (.seq (.seq (.dr (.ops r1 false) [17,18,19,20,21] []) (.seq (.dr (.ops r2 false) [22] []) (.cond 23 (.seq (.dr (.ops r3 false) [0,1,6,7,10,23,24,25] []) .ret) .skip))) (.seq (.dr (.ops r4 false) [10,23,26,27,28,29,30] []) (.seq (.ops r5 false) (.seq (.seq (.ops r6 false) (.block 0 (.loop l1))) (.seq (.seq (.dr (.ops r10 false) [0,14,33] []) (.block 2 (.loop l2))) (.seq (.dr (.ops r14 false) [1,15,47,63,64,65,66] []) (.seq (.dr (.ops r15 true) [6,7,11,12,13,16,67,68,69,70,71,72,73,74,75,76,77,78,79,80,81,82,83,84] []) .ret))))))))
end ref23_FormOne
def ref23_FormOne : AFn := ⟨4, ref23_FormOne.c, [.cell 8 true 12, .tmp 9], false⟩
namespace ref23_FormTwo
def r0 : List AI := [o 6 (.box 6 2), o 7 (.box 7 3), o 8 (.alloc 8 [z, z, z, z, z, z, z, z, z, .nil, .nil, z]), o 9 (.mov (k 0))]
def r1 : List AI := [m 17 0, m 18 1, o 19 (.ld true 4 6), o 20 (.ld true 4 7), o 21 (.call 179 [17, 18, 19, 20]), m 10 21]
def r2 : List AI := [m 22 10, o 23 (.bin .neq 22 (k 0))]
def r3 : List AI := [o 24 (.build [z, z, z, z, z, z, z, z, z, .nil, .nil, z] []), m 25 10, n (.st 12 8 24), m 9 25]
def r4 : List AI := [m 26 0, o 27 (.len 26), o 28 (.bin .sub 27 (k 1)), m 29 1, o 30 (.len 29), o 31 (.mm true [28, 30]), m 11 31]
def r5 : List AI := [m 32 11, o 33 (.bin .add (k 1) 32), m 12 33]
def r6 : List AI := [o 34 (.fadr 7 1), o 35 (.ld false 1 34), o 36 (.conv .u64 35), o 37 (.bin .shl (k 1) 36), o 38 (.build [z, z] [(0, 1, (k 0)), (1, 1, 37)]),
 o 39 (.bslice 39 2 [38]), m 13 39]
def r7 : List AI := [o 14 (.mov (k 0))]
def r8 : List AI := [m 40 14, m 41 1, o 42 (.len 41), o 43 (.bin .lss 40 42)]
def r10 : List AI := [m 46 13, m 47 14, o 48 (.bin .add (k 1) 47), m 49 1, m 50 14, o 51 (.iadr none 1 49 50), o 52 (.ld false 1 51), o 53 (.un .neg 52),
 o 54 (.build [z, z] [(0, 1, 48), (1, 1, 53)]), o 55 (.bslice 55 2 [54]), o 56 (.app 56 2 16 46 55), m 13 56]
def r9 : List AI := [m 44 14, o 45 (.bin .add 44 (k 1)), m 14 45]
def r11 : List AI := [m 57 12, m 58 0, o 59 (.iadr none 1 58 (k 0)), o 60 (.ld false 1 59), o 61 (.build [z, z] [(0, 1, 57), (1, 1, 60)]), o 62 (.bslice 62 2 [61]), m 15 62]
def r12 : List AI := [o 16 (.mov (k 1))]
def r13 : List AI := [m 63 16, m 64 0, o 65 (.len 64), o 66 (.bin .lss 63 65)]
def r15 : List AI := [m 69 15, m 70 16, m 71 0, m 72 16, o 73 (.iadr none 1 71 72), o 74 (.ld false 1 73), o 75 (.build [z, z] [(0, 1, 70), (1, 1, 74)]), o 76 (.bslice 76 2 [75]),
 o 77 (.app 77 2 16 69 76), m 15 77]
def r14 : List AI := [m 67 16, o 68 (.bin .add 67 (k 1)), m 16 68]
def r16 : List AI := [⟨some 78, .ld true 4 6, none, [85]⟩, ⟨some 79, .ld true 4 7, none, [85]⟩, m 80 11, m 81 13, o 82 (.build [.nil] [(0, 1, 81)]), m 83 15,
 o 84 (.build [.nil] [(0, 1, 83)]), o 85 (.bslice 85 1 [82, 84]), m 86 12, m 87 11, ⟨some 88, .call 180 [86, (k 1), 87], none, [85]⟩, m 89 12,
 o 90 (.bin .add 89 (k 1)), o 91 (.build [z, z, z, z, z, z, z, z, z, .nil, .nil, z] [(0, 4, 78), (4, 4, 79), (8, 1, 80), (9, 1, 85), (10, 1, 88), (11, 1, 90)]),
 n (.st 12 8 91), o 9 (.mov (k 0))]
def l1 : ACode := (.seq (.seq (.dr (.ops r8 false) [40,41,42] []) (.cond 43 .skip (.exit 0))) (.seq (.block 1 (.dr (.ops r10 false) [43,46,47,48,49,50,51,52,53,54,55,56] [])) (.dr (.ops r9 false) [44,45] [])))
def l2 : ACode := (.seq (.seq (.dr (.ops r13 false) [63,64,65] []) (.cond 66 .skip (.exit 2))) (.seq (.block 3 (.dr (.ops r15 false) [66,69,70,71,72,73,74,75,76,77] [])) (.dr (.ops r14 false) [67,68] [])))
def c : ACode := (.seq (.dr (.ops r0 false) [2,3,9] []) (.seq (.seq (.dr (.ops r1 false) [17,18,19,20,21] []) (.seq (.dr (.ops r2 false) [22] []) (.cond 23 (.seq (.dr (.ops r3 false) [0,1,6,7,10,23,24,25] []) .ret) .skip))) (.seq (.dr (.ops r4 false) [10,23,26,27,28,29,30,31] []) (.seq (.dr (.ops r5 false) [32,33] []) (.seq (.dr (.ops r6 false) [34,35,36,37,38,39] []) (.seq (.seq (.ops r7 false) (.block 0 (.loop l1))) (.seq (.dr (.ops r11 false) [1,14,43,57,58,59,60,61,62] []) (.seq (.seq (.ops r12 false) (.block 2 (.loop l2))) (.seq (.dr (.ops r16 true) [0,6,7,11,12,13,15,16,66,78,79,80,81,82,83,84,85,86,87,88,89,90,91] []) .ret)))))))))
end ref23_FormTwo
def ref23_FormTwo : AFn := ⟨4, ref23_FormTwo.c, [.cell 8 true 12, .tmp 9], false⟩
namespace ref23_Transposed
def r0 : List AI := [o 6 (.box 6 2), o 7 (.box 7 3), o 8 (.alloc 8 [z, z, z, z, z, z, z, z, z, .nil, .nil, z]), o 9 (.mov (k 0))]
def r1 : List AI := [m 18 0, m 19 1, o 20 (.ld true 4 6), o 21 (.ld true 4 7), o 22 (.call 179 [18, 19, 20, 21]), m 10 22]
def r2 : List AI := [m 23 10, o 24 (.bin .neq 23 (k 0))]
def r3 : List AI := [o 25 (.build [z, z, z, z, z, z, z, z, z, .nil, .nil, z] []), m 26 10, n (.st 12 8 25), m 9 26]
def r4 : List AI := [m 27 0, o 28 (.len 27), o 29 (.bin .sub 28 (k 1)), m 30 1, o 31 (.len 30), o 32 (.mm true [29, 31]), o 33 (.fadr 7 1), o 34 (.ld false 1 33),
 o 35 (.conv .u64 34), o 36 (.bin .shl (k 1) 35), m 11 32, m 12 36]
def r5 : List AI := [m 37 11, o 38 (.bin .add (k 1) 37), m 13 38]
def r6 : List AI := [o 39 (.ld true 4 6), o 40 (.ld true 4 7), m 41 11, m 42 13,
 o 43 (.build [z, z, z, z, z, z, z, z, z, .nil, .nil, z] [(0, 4, 39), (4, 4, 40), (8, 1, 41), (11, 1, 42)]),
 o 14 (.alloc 14 [z, z, z, z, z, z, z, z, z, .nil, .nil, z]), n (.st 12 14 43)]
def r7 : List AI := [m 44 0, o 45 (.iadr none 1 44 (k 0)), o 46 (.ld false 1 45), o 47 (.build [z, z] [(0, 1, (k 0)), (1, 1, 46)]), o 48 (.bslice 48 2 [47]), m 15 48]
def r8 : List AI := [m 49 11, o 50 (.bin .geq 49 (k 1))]
def r9 : List AI := [m 51 15, m 52 12, o 53 (.build [z, z] [(0, 1, (k 1)), (1, 1, 52)]), o 54 (.bslice 54 2 [53]), o 55 (.app 55 2 16 51 54), m 15 55]
def r10 : List AI := [o 56 (.fadr 14 9), o 57 (.ld false 1 56), m 58 15, o 59 (.build [.nil] [(0, 1, 58)]), o 60 (.bslice 60 1 [59]), o 61 (.app 61 1 24 57 60), o 62 (.fadr 14 9),
 n (.st 1 62 61)]
def r11 : List AI := [o 16 (.mov (k 1))]
def r12 : List AI := [m 63 16, m 64 11, o 65 (.bin .leq 63 64)]
def r14 : List AI := [o 17 (.vrow 17 2)]
def r15 : List AI := [m 68 16, m 69 0, o 70 (.len 69), o 71 (.bin .lss 68 70)]
def r16 : List AI := [m 72 17, m 73 0, m 74 16, o 75 (.iadr none 1 73 74), o 76 (.ld false 1 75), o 77 (.build [z, z] [(0, 1, (k 0)), (1, 1, 76)]), o 78 (.bslice 78 2 [77]),
 o 79 (.app 79 2 16 72 78), m 17 79]
def r17 : List AI := [m 80 16, m 81 1, o 82 (.len 81), o 83 (.bin .leq 80 82)]
def r18 : List AI := [m 84 17, m 85 13, m 86 1, m 87 16, o 88 (.bin .sub 87 (k 1)), o 89 (.iadr none 1 86 88), o 90 (.ld false 1 89), o 91 (.un .neg 90),
 o 92 (.build [z, z] [(0, 1, 85), (1, 1, 91)]), o 93 (.bslice 93 2 [92]), o 94 (.app 94 2 16 84 93), m 17 94]
def r19 : List AI := [m 95 16, m 96 11, o 97 (.bin .lss 95 96)]
def r20 : List AI := [m 98 17, m 99 16, o 100 (.bin .add 99 (k 1)), m 101 12, o 102 (.build [z, z] [(0, 1, 100), (1, 1, 101)]), o 103 (.bslice 103 2 [102]),
 o 104 (.app 104 2 16 98 103), m 17 104]
def r21 : List AI := [o 105 (.fadr 14 9), o 106 (.ld false 1 105), m 107 17, o 108 (.build [.nil] [(0, 1, 107)]), o 109 (.bslice 109 1 [108]), o 110 (.app 110 1 24 106 109),
 o 111 (.fadr 14 9), n (.st 1 111 110)]
def r22 : List AI := [o 112 (.fadr 14 10), o 113 (.ld false 1 112), m 114 13, m 115 16, o 116 (.bin .add 114 115), o 117 (.bslice 117 1 [116]), o 118 (.app 118 1 8 113 117),
 o 119 (.fadr 14 10), n (.st 1 119 118)]
def r13 : List AI := [m 66 16, o 67 (.bin .add 66 (k 1)), m 16 67]
def r23 : List AI := [o 120 (.ld true 12 14), n (.st 12 8 120), o 9 (.mov (k 0))]
def l1 : ACode := (.seq (.seq (.dr (.ops r12 false) [63,64] []) (.cond 65 .skip (.exit 0))) (.seq (.block 1 (.seq (.dr (.ops r14 false) [65] []) (.seq (.seq (.dr (.ops r15 false) [68,69,70] []) (.cond 71 (.dr (.ops r16 false) [71,72,73,74,75,76,77,78,79] []) .skip)) (.seq (.seq (.dr (.ops r17 false) [71,80,81,82] []) (.cond 83 (.dr (.ops r18 false) [83,84,85,86,87,88,89,90,91,92,93,94] []) .skip)) (.seq (.seq (.dr (.ops r19 false) [83,95,96] []) (.cond 97 (.dr (.ops r20 false) [97,98,99,100,101,102,103,104] []) .skip)) (.seq (.dr (.ops r21 false) [17,97,105,106,107,108,109,110,111] []) (.dr (.ops r22 false) [112,113,114,115,116,117,118,119] []))))))) (.dr (.ops r13 false) [66,67] [])))
def c : ACode := (.seq (.dr (.ops r0 false) [2,3,9] []) (.seq (.seq (.dr (.ops r1 false) [18,19,20,21,22] []) (.seq (.dr (.ops r2 false) [23] []) (.cond 24 (.seq (.dr (.ops r3 false) [0,1,6,7,10,24,25,26] []) .ret) .skip))) (.seq (.dr (.ops r4 true) [10,24,27,28,29,30,31,32,33,34,35,36] []) (.seq (.dr (.ops r5 false) [37,38] []) (.seq (.dr (.ops r6 false) [6,7,39,40,41,42,43] []) (.seq (.dr (.ops r7 false) [44,45,46,47,48] []) (.seq (.seq (.dr (.ops r8 false) [49] []) (.cond 50 (.dr (.ops r9 false) [50,51,52,53,54,55] []) .skip)) (.seq (.dr (.ops r10 false) [15,50,56,57,58,59,60,61,62] []) (.seq (.seq (.ops r11 false) (.block 0 (.loop l1))) (.seq (.dr (.ops r23 false) [0,1,11,12,13,14,16,65,120] []) .ret))))))))))
end ref23_Transposed
def ref23_Transposed : AFn := ⟨4, ref23_Transposed.c, [.cell 8 true 12, .tmp 9], false⟩
namespace ref23_FIR
def r0 : List AI := [o 4 (.box 4 1), o 5 (.box 5 2), o 6 (.alloc 6 [z, z, z, z, z, z, z, z, z, .nil, .nil, z]), o 7 (.mov (k 0))]
def r1 : List AI := [m 8 0, o 9 (.ld true 4 4), o 10 (.ld true 4 5), o 11 (.call 181 [8, (.c .nil), 9, 10]), o 12 (.ext 11 0), o 13 (.ext 11 1), n (.st 12 6 12), m 7 13]
def c : ACode := (.seq (.dr (.ops r0 false) [1,2,7] []) (.seq (.dr (.ops r1 false) [0,4,5,8,9,10,11,12,13] []) .ret))
end ref23_FIR
def ref23_FIR : AFn := ⟨3, ref23_FIR.c, [.cell 6 true 12, .tmp 7], false⟩
namespace ref23_Numbers
def r0 : List AI := [o 5 (.box 185005 2), o 6 (.mov (.c .nil))]
def r1 : List AI := [m 9 0, m 7 9]
def r2 : List AI := [o 8 (.mov (k 0))]
def r3 : List AI := [m 10 8, m 11 1, o 12 (.len 11), o 13 (.bin .lss 10 12)]
def r5 : List AI := [m 16 7, m 17 1, m 18 8, o 19 (.iadr none 1 17 18), o 20 (.ld false 1 19), o 21 (.fadr 5 1), o 22 (.ld false 1 21), o 23 (.conv .u64 22),
 o 24 (.bin .shl (k 1) 23), o 25 (.call 125 [20, 24]), o 26 (.bslice 185026 3 [25]), o 27 (.app 185027 3 56 16 26), m 7 27]
def r4 : List AI := [m 14 8, o 15 (.bin .add 14 (k 1)), m 8 15]
def r6 : List AI := [m 28 7, o 29 (.calli 171 [28]), m 6 29]
def l1 : ACode := (.seq (.seq (.dr (.ops r3 false) [10,11,12] []) (.cond 13 .skip (.exit 0))) (.seq (.block 1 (.dr (.ops r5 true) [13,16,17,18,19,20,21,22,23,24,25,26,27] [])) (.dr (.ops r4 false) [14,15] [])))
def c : ACode := (.seq (.dr (.ops r0 false) [2,6] []) (.seq (.dr (.ops r1 false) [0,9] []) (.seq (.seq (.ops r2 false) (.block 0 (.loop l1))) (.seq (.dr (.ops r6 false) [1,5,7,8,13,28,29] []) .ret))))
end ref23_Numbers
def ref23_Numbers : AFn := ⟨3, ref23_Numbers.c, [.tmp 6], false⟩
namespace ref23_Ideal
def r0 : List AI := [o 5 (.box 5 2), o 6 (.alloc 6 [.nil, .nil]), o 7 (.mov (k 0))]
def r1 : List AI := [m 9 0, m 10 1, o 11 (.ld true 4 5), o 12 (.ld true 4 5), o 13 (.call 179 [9, 10, 11, 12]), m 8 13]
def r2 : List AI := [m 14 8, o 15 (.bin .neq 14 (k 0))]
def r3 : List AI := [o 16 (.build [.nil, .nil] []), m 17 8, n (.st 2 6 16), m 7 17]
def r4 : List AI := [m 18 0, o 19 (.ld true 4 5), o 20 (.callr 20 185 [(.c .nil), 18, 19]), o 21 (.call 124 [(k 1)]), o 22 (.bslice 22 3 [21]), m 23 1,
 ⟨some 24, .ld true 4 5, none, [20,22]⟩, o 25 (.calli 185 [22, 23, 24]), o 26 (.build [.nil, .nil] [(0, 1, 20), (1, 1, 25)]), n (.st 2 6 26), o 7 (.mov (k 0))]
def c : ACode := (.seq (.dr (.ops r0 false) [2,7] []) (.seq (.seq (.dr (.ops r1 false) [9,10,11,12,13] []) (.seq (.dr (.ops r2 false) [14] []) (.cond 15 (.seq (.dr (.ops r3 false) [0,1,5,8,15,16,17] []) .ret) .skip))) (.seq (.dr (.ops r4 true) [0,1,5,8,15,18,19,20,21,22,23,24,25,26] []) .ret)))
end ref23_Ideal
def ref23_Ideal : AFn := ⟨3, ref23_Ideal.c, [.cell 6 true 2, .tmp 7], false⟩
structure BldGLib (L : Lib) : Prop extends DirectGLib L, RatHLib L, PolyGLib L, R05GLib L where
 direct_Ideal : L 174 = some F.direct_Ideal
 fixed_Value : L 175 = some F.fixed_Value
 ref22_SameFilters : L 176 = some F.ref22_SameFilters
 ref22_SameNets : L 177 = some F.ref22_SameNets
 ref23_opposite : L 178 = some F.ref23_opposite
 ref23_check : L 179 = some F.ref23_check
 ref23_line : L 180 = some F.ref23_line
 ref23_FormOne : L 181 = some F.ref23_FormOne
 ref23_FormTwo : L 182 = some F.ref23_FormTwo
 ref23_Transposed : L 183 = some F.ref23_Transposed
 ref23_FIR : L 184 = some F.ref23_FIR
 ref23_Numbers : L 185 = some F.ref23_Numbers
 ref23_Ideal : L 186 = some F.ref23_Ideal
end Go.Eng.F

namespace Go.Eng.F
open C
namespace law23_DirectBuilds
def r0 : List AI := [o 6 (.box 6 2), o 7 (.box 7 3), o 8 (.mov (.c (.bool false)))]
def r1 : List AI := [m 17 0, o 18 (.len 17), o 19 (.bin .gtr 18 (k 60)), m 20 19, g 21 20 false (.mov 1), g 22 20 false (.len 21), g 23 20 false (.bin .gtr 22 (k 20)),
 o 24 (.pick 20 (.c (.bool true)) 23)]
def r2 : List AI := [o 25 (.call 54 []), m 8 25]
def r3 : List AI := [m 27 0, m 28 1, o 29 (.ld true 4 6), o 30 (.ld true 4 7), o 31 (.call 50 [27, 28, 29, 30]), m 26 31, o 32 (.ext 26 0), o 33 (.ext 26 1),
 o 9 (.alloc 9 [z, z, z, z, z, z, z, z, z, .nil, .nil, z]), n (.st 12 9 32), m 10 33]
def r4 : List AI := [m 35 0, m 36 1, o 37 (.ld true 4 6), o 38 (.ld true 4 7), o 39 (.call 181 [35, 36, 37, 38]), m 34 39, o 40 (.ext 34 0), o 41 (.ext 34 1),
 o 11 (.alloc 11 [z, z, z, z, z, z, z, z, z, .nil, .nil, z]), n (.st 12 11 40), m 12 41]
def r5 : List AI := [m 42 10, m 43 12, o 44 (.bin .neq 42 43), m 45 44, g 46 45 false (.ld true 12 9), g 47 45 false (.ld true 12 11), g 48 45 false (.call 177 [46, 47]),
 g 49 45 false (.un .not 48), o 50 (.pick 45 (.c (.bool true)) 49)]
def r6 : List AI := [o 8 (.mov (.c (.bool false)))]
def r7 : List AI := [m 52 0, m 53 1, o 54 (.ld true 4 6), o 55 (.ld true 4 7), o 56 (.call 51 [52, 53, 54, 55]), m 51 56, o 57 (.ext 51 0), o 58 (.ext 51 1), n (.st 12 9 57),
 m 10 58]
def r8 : List AI := [m 60 0, m 61 1, o 62 (.ld true 4 6), o 63 (.ld true 4 7), o 64 (.call 182 [60, 61, 62, 63]), m 59 64, o 65 (.ext 59 0), o 66 (.ext 59 1), n (.st 12 11 65),
 m 12 66]
def r9 : List AI := [m 67 10, m 68 12, o 69 (.bin .neq 67 68), m 70 69, g 71 70 false (.ld true 12 9), g 72 70 false (.ld true 12 11), g 73 70 false (.call 177 [71, 72]),
 g 74 70 false (.un .not 73), o 75 (.pick 70 (.c (.bool true)) 74)]
def r10 : List AI := [o 8 (.mov (.c (.bool false)))]
def r11 : List AI := [m 77 0, m 78 1, o 79 (.ld true 4 6), o 80 (.ld true 4 7), o 81 (.call 52 [77, 78, 79, 80]), m 76 81, o 82 (.ext 76 0), o 83 (.ext 76 1), n (.st 12 9 82),
 m 10 83]
def r12 : List AI := [m 85 0, m 86 1, o 87 (.ld true 4 6), o 88 (.ld true 4 7), o 89 (.call 183 [85, 86, 87, 88]), m 84 89, o 90 (.ext 84 0), o 91 (.ext 84 1), n (.st 12 11 90),
 m 12 91]
def r13 : List AI := [m 92 10, m 93 12, o 94 (.bin .neq 92 93), m 95 94, g 96 95 false (.ld true 12 9), g 97 95 false (.ld true 12 11), g 98 95 false (.call 177 [96, 97]),
 g 99 95 false (.un .not 98), o 100 (.pick 95 (.c (.bool true)) 99)]
def r14 : List AI := [o 8 (.mov (.c (.bool false)))]
def r15 : List AI := [m 102 0, o 103 (.ld true 4 6), o 104 (.ld true 4 7), o 105 (.call 53 [102, 103, 104]), m 101 105, o 106 (.ext 101 0), o 107 (.ext 101 1), n (.st 12 9 106),
 m 10 107]
def r16 : List AI := [m 109 0, o 110 (.ld true 4 6), o 111 (.ld true 4 7), o 112 (.call 184 [109, 110, 111]), m 108 112, o 113 (.ext 108 0), o 114 (.ext 108 1), n (.st 12 11 113),
 m 12 114]
def r17 : List AI := [m 116 0, m 117 1, o 118 (.ld true 4 7), o 119 (.call 174 [116, 117, 118]), m 115 119, o 120 (.ext 115 0), o 121 (.ext 115 1), o 13 (.alloc 13 [.nil, .nil]),
 n (.st 2 13 120), m 14 121]
def r18 : List AI := [m 123 0, m 124 1, o 125 (.ld true 4 7), o 126 (.call 186 [123, 124, 125]), m 122 126, o 127 (.ext 122 0), o 128 (.ext 122 1), o 15 (.alloc 15 [.nil, .nil]),
 n (.st 2 15 127), m 16 128]
def r19 : List AI := [o 129 (.call 54 []), m 130 129, g 131 130 true (.mov 10), g 132 130 true (.mov 12), g 133 130 true (.bin .eql 131 132),
 o 134 (.pick 130 133 (.c (.bool false))), m 135 134, g 136 135 true (.ld true 12 9), g 137 135 true (.ld true 12 11), g 138 135 true (.call 177 [136, 137]),
 o 139 (.pick 135 138 (.c (.bool false))), m 140 139, g 141 140 true (.mov 14), g 142 140 true (.mov 16), g 143 140 true (.bin .eql 141 142),
 o 144 (.pick 140 143 (.c (.bool false))), m 145 144, g 146 145 true (.ld true 2 13), g 147 145 true (.ld true 2 15), g 148 145 true (.call 176 [146, 147]),
 o 149 (.pick 145 148 (.c (.bool false))), m 8 149]
def c : ACode := (.seq (.dr (.ops r0 false) [2,3,8] []) (.seq (.seq (.dr (.ops r1 false) [17,18,19,20,21,22,23] []) (.cond 24 (.seq (.dr (.ops r2 false) [0,1,6,7,24,25] []) .ret) .skip)) (.seq (.dr (.ops r3 false) [24,26,27,28,29,30,31,32,33] []) (.seq (.dr (.ops r4 false) [34,35,36,37,38,39,40,41] []) (.seq (.seq (.dr (.ops r5 false) [10,12,42,43,44,45,46,47,48,49] []) (.cond 50 (.seq (.dr (.ops r6 false) [0,1,6,7,9,11,50] []) .ret) .skip)) (.seq (.dr (.ops r7 false) [50,51,52,53,54,55,56,57,58] []) (.seq (.dr (.ops r8 false) [59,60,61,62,63,64,65,66] []) (.seq (.seq (.dr (.ops r9 false) [10,12,67,68,69,70,71,72,73,74] []) (.cond 75 (.seq (.dr (.ops r10 false) [0,1,6,7,9,11,75] []) .ret) .skip)) (.seq (.dr (.ops r11 false) [75,76,77,78,79,80,81,82,83] []) (.seq (.dr (.ops r12 false) [84,85,86,87,88,89,90,91] []) (.seq (.seq (.dr (.ops r13 false) [10,12,92,93,94,95,96,97,98,99] []) (.cond 100 (.seq (.dr (.ops r14 false) [0,1,6,7,9,11,100] []) .ret) .skip)) (.seq (.dr (.ops r15 false) [100,101,102,103,104,105,106,107] []) (.seq (.dr (.ops r16 false) [6,108,109,110,111,112,113,114] []) (.seq (.dr (.ops r17 false) [115,116,117,118,119,120,121] []) (.seq (.dr (.ops r18 false) [0,1,7,122,123,124,125,126,127,128] []) (.seq (.dr (.ops r19 false) [9,10,11,12,13,14,15,16,129,130,131,132,133,134,135,136,137,138,139,140,141,142,143,144,145,146,147,148,149] []) .ret))))))))))))))))
end law23_DirectBuilds
def law23_DirectBuilds : AFn := ⟨4, law23_DirectBuilds.c, [.tmp 8], false⟩
structure LawBLib (L : Lib) : Prop extends BldGLib L where
 law23_DirectBuilds : L 187 = some F.law23_DirectBuilds
end Go.Eng.F

namespace Go.Eng
section
variable {L : Lib}
def Cl.le (C C' : Cl) : Prop := (∀ f vs r, C.pure f vs = some r → C'.pure f vs = some r) ∧ (∀ f vs o r, C.inn f vs o = some r → C'.inn f vs o = some r) ∧ C.num = C'.num
theorem adoptR_mono {x y : Option (AV × Own)} {r : Nat × List (List AV)} (h : ∀ q, x = some q → y = some q) (hr : adoptR x = some r) : adoptR y = some r := by
 cases x with
 | none => simp [adoptR] at hr
 | some q => rw [h q rfl]; exact hr
theorem eff_mono {C C' : Cl} (h : C.le C') {ban : List Nat} {ρ : Opd → AV} {own : Own} {op : AOp} {E : Eff} (he : eff C ban ρ own op = some E) : eff C' ban ρ own op = some E := by
 cases op with
 | call f xs =>
  simp only [eff] at he ⊢
  split at he
  ·rename_i vs hvs
   simp only [Option.map_eq_some_iff] at he ⊢
   obtain ⟨r, hr, rfl⟩ := he
   exact ⟨r, h.1 f vs r hr, rfl⟩
  ·cases he
 | calli f xs =>
  simp only [eff, Option.map_eq_some_iff] at he ⊢
  obtain ⟨r, hr, rfl⟩ := he
  exact ⟨r, h.2.1 f _ own r hr, rfl⟩
 | mkf p f xs => simp only [eff] at he ⊢; rw [← h.2.2]; exact he
 | callr s f xs =>
  simp only [eff] at he ⊢
  split at he
  ·rename_i vs hvs
   simp only [Option.map_eq_some_iff] at he ⊢
   obtain ⟨r, hr, rfl⟩ := he
   exact ⟨r, adoptR_mono (h.2.1 f vs Own.emp) hr, rfl⟩
  ·cases he
 | callq f xs =>
  simp only [eff] at he ⊢
  split at he
  ·rename_i hq
   rw [if_pos hq]
   split at he
   ·rename_i r hr
    rw [h.1 _ _ r hr]
    exact he
   ·cases he
  ·cases he
 | callv x xs =>
  simp only [eff] at he ⊢
  rw [← h.2.2]
  split at he
  ·split at he
   ·rename_i hg
    rw [if_pos hg]
    split at he
    ·split at he
     ·rename_i vs hvs
      simp only [Option.map_eq_some_iff] at he ⊢
      obtain ⟨r, hr, rfl⟩ := he
      exact ⟨r, h.1 _ vs r hr, rfl⟩
     ·cases he
    ·simp only [Option.map_eq_some_iff] at he ⊢
     obtain ⟨r, hr, rfl⟩ := he
     exact ⟨r, h.2.1 _ _ own r hr, rfl⟩
    ·cases he
   ·cases he
  ·cases he
 | _ => exact he
theorem stepI_mono {C C' : Cl} (h : C.le C') {o : AI} {st st' : St} (he : stepI C o st = some st') : stepI C' o st = some st' := by
 unfold stepI at he ⊢
 split at he
 ·simp only [Option.map_eq_some_iff] at he ⊢
  obtain ⟨E, h1, h2⟩ := he
  exact ⟨E, eff_mono h h1, h2⟩
 ·exact he
 ·exact he
theorem stepL_mono {C C' : Cl} (h : C.le C') : ∀ {l : List AI} {st st' : St}, stepL C l st = some st' → stepL C' l st = some st'
 | [], st, st', he => he
 | o :: r, st, st', he => by
  simp only [stepL] at he ⊢
  cases hs : stepI C o st with
  | none => simp [hs] at he
  | some st1 =>
   rw [stepI_mono h hs]
   simp only [hs] at he
   exact stepL_mono h he
theorem run_mono {C C' : Cl} (h : C.le C') : ∀ {n n' : Nat} {k : List It} {st st' : St}, n ≤ n' → run C n k st = some st' → run C' n' k st = some st' := by
 intro n
 induction n with
 | zero => intro n' k st st' _ hr; simp [run] at hr
 | succ n ih =>
  intro n' k st st' hn hr
  obtain ⟨q, rfl⟩ : ∃ q, n' = q + 1 := ⟨n' - 1, by omega⟩
  have hq : n ≤ q := by omega
  cases k with
  | nil => exact hr
  | cons it k =>
   cases it with
   | blk id => simp only [run] at hr ⊢; exact ih hq hr
   | drp ts ss => simp only [run] at hr ⊢; exact ih hq hr
   | lp c => simp only [run] at hr ⊢; exact ih hq hr
   | code c =>
    cases c with
    | skip => simp only [run] at hr ⊢; exact ih hq hr
    | ops l d =>
     simp only [run] at hr ⊢
     cases hs : stepL C l st with
     | none => simp [hs] at hr
     | some st1 =>
      rw [stepL_mono h hs]
      simp only [hs] at hr
      exact ih hq hr
    | dr c ts ss => simp only [run] at hr ⊢; exact ih hq hr
    | scope c => simp only [run] at hr ⊢; exact ih hq hr
    | seq a b => simp only [run] at hr ⊢; exact ih hq hr
    | cond x a b =>
     simp only [run] at hr ⊢
     split at hr
     ·exact ih hq hr
     ·exact ih hq hr
     ·cases hr
    | block id c => simp only [run] at hr ⊢; exact ih hq hr
    | loop c => simp only [run] at hr ⊢; exact ih hq hr
    | exit id =>
     simp only [run] at hr ⊢
     split at hr
     ·exact ih hq hr
     ·cases hr
    | ret => exact hr
theorem pureP_mono {I I' : List AV → Option (AV × Own)} (hI : ∀ vs r, I vs = some r → I' vs = some r) {vs : List AV} {r : AV} (h : pureP I vs = some r) : pureP I' vs = some r := by
 unfold pureP at h ⊢
 cases he : I vs with
 | none => simp [he] at h
 | some x => rw [hI vs _ he]; simpa [he] using h
theorem pureS_mono {b : Bool} {I I' : List AV → Option (AV × Own)} (hI : ∀ vs r, I vs = some r → I' vs = some r) {vs : List AV} {r : AV} (h : pureS b I vs = some r) : pureS b I' vs = some r := by
 unfold pureS at h ⊢
 split at h
 ·split at h
  ·rename_i r1 r2 h1 h2
   rw [pureP_mono hI h1, pureP_mono hI h2]
   exact h
  ·cases h
 ·exact pureP_mono hI h
theorem ev_mono : ∀ (n : Nat), (clAt L n).le (clAt L (n + 1)) := by
 have inn : ∀ n, (∀ f vs o r, evI L n f vs o = some r → evI L (n + 1) f vs o = some r) → ∀ f vs r, evP L n f vs = some r → evP L (n + 1) f vs = some r := by
  intro n hI f vs r h
  exact pureS_mono (fun vs r h => hI f vs _ r h) h
 intro n
 induction n with
 | zero =>
  have : ∀ f vs o r, evI L 0 f vs o = some r → evI L 1 f vs o = some r := fun f vs o r h => by simp [evI] at h
  exact ⟨inn 0 this, this, rfl⟩
 | succ n ih =>
  have : ∀ f vs o r, evI L (n + 1) f vs o = some r → evI L (n + 2) f vs o = some r := fun f vs o r h => by
   rw [evI_succ] at h ⊢
   cases hL : L f with
   | none => simp [hL] at h
   | some fn =>
    simp only [hL] at h ⊢
    split at h
    ·rename_i hp
     rw [if_pos hp]
     cases hr : run (clAt L n) n [.code fn.body] ⟨initTm 0 vs, o⟩ with
     | none => simp [hr] at h
     | some st =>
      rw [run_mono ih (Nat.le_succ n) hr]
      simpa [hr] using h
    ·cases h
  exact ⟨inn (n + 1) this, this, rfl⟩
theorem cl_le {n n' : Nat} (h : n ≤ n') : (clAt L n).le (clAt L n') := by
 induction h with
 | refl => exact ⟨fun _ _ _ h => h, fun _ _ _ _ h => h, rfl⟩
 | step _ ih => exact ⟨fun f vs r h => (ev_mono _).1 f vs r (ih.1 f vs r h), fun f vs o r h => (ev_mono _).2.1 f vs o r (ih.2.1 f vs o r h), rfl⟩
def Ev (L : Lib) (f : Nat) (vs : List AV) (r : AV) : Prop := ∃ n, evP L n f vs = some r
def EvD (L : Lib) (f : Nat) (vs : List AV) (r : AV) : Prop := ∃ n, pureP (fun vs => evI L n f vs Own.emp) vs = some r
def EvI (L : Lib) (f : Nat) (vs : List AV) (o : Own) (r : AV) (o' : Own) : Prop := ∃ n, evI L n f vs o = some (r, o')
def EvR (L : Lib) (f : Nat) (vs : List AV) (z : Nat) (es : List (List AV)) : Prop := ∃ n, adoptR (evI L n f vs Own.emp) = some (z, es)
theorem Ev.det {f : Nat} {vs : List AV} {r r' : AV} (h : Ev L f vs r) (h' : Ev L f vs r') : r = r' := by
 obtain ⟨n, hn⟩ := h
 obtain ⟨n', hn'⟩ := h'
 have h1 := (cl_le (L := L) (Nat.le_max_left n n')).1 f vs r hn
 have h2 := (cl_le (L := L) (Nat.le_max_right n n')).1 f vs r' hn'
 rw [h1] at h2
 exact Option.some.inj h2
theorem EvI.det {f : Nat} {vs : List AV} {o : Own} {r r' : AV} {o1 o2 : Own} (h : EvI L f vs o r o1) (h' : EvI L f vs o r' o2) : r = r' ∧ o1 = o2 := by
 obtain ⟨n, hn⟩ := h
 obtain ⟨n', hn'⟩ := h'
 have h1 := (cl_le (L := L) (Nat.le_max_left n n')).2.1 f vs o _ hn
 have h2 := (cl_le (L := L) (Nat.le_max_right n n')).2.1 f vs o _ hn'
 rw [h1] at h2
 simpa using h2
def AK (L : Lib) (k : List It) (st : St) (Q : St → Prop) : Prop := ∃ n c st', run (clAt L c) n k st = some st' ∧ Q st'
def AO (L : Lib) (l : List AI) (k : List It) (st : St) (Q : St → Prop) : Prop := ∃ n c st1 st', stepL (clAt L c) l st = some st1 ∧ run (clAt L c) n k st1 = some st' ∧ Q st'
variable {k : List It} {st : St} {Q : St → Prop}
theorem AK_step {it : It} {k' : List It} {st1 : St} (h : ∀ (C : Cl) (n : Nat), run C (n + 1) (it :: k) st = run C n k' st1) : AK L (it :: k) st Q ↔ AK L k' st1 Q := by
 constructor
 ·rintro ⟨n, c, st', hr, hq⟩
  cases n with
  | zero => simp [run] at hr
  | succ n => exact ⟨n, c, st', by rw [← h]; exact hr, hq⟩
 ·rintro ⟨n, c, st', hr, hq⟩
  exact ⟨n + 1, c, st', by rw [h]; exact hr, hq⟩
theorem AK_nil : AK L [] st Q ↔ Q st := by
 constructor
 ·rintro ⟨n, c, st', hr, hq⟩
  cases n with
  | zero => simp [run] at hr
  | succ n => simp only [run, Option.some.injEq] at hr; exact hr ▸ hq
 ·exact fun h => ⟨1, 0, st, rfl, h⟩
theorem AK_blk {id : Nat} : AK L (.blk id :: k) st Q ↔ AK L k st Q := AK_step fun _ _ => rfl
theorem AK_drp {ts ss : List Nat} : AK L (.drp ts ss :: k) st Q ↔ AK L k ⟨tdrop st.tm ts, st.own.drop ss⟩ Q := AK_step fun _ _ => rfl
theorem AK_lp {c : ACode} : AK L (.lp c :: k) st Q ↔ AK L (.code c :: .lp c :: k) st Q := AK_step fun _ _ => rfl
theorem AK_skip : AK L (.code .skip :: k) st Q ↔ AK L k st Q := AK_step fun _ _ => rfl
theorem AK_dr {c : ACode} {ts ss : List Nat} : AK L (.code (.dr c ts ss) :: k) st Q ↔ AK L (.code c :: .drp ts ss :: k) st Q := AK_step fun _ _ => rfl
theorem AK_scope {c : ACode} : AK L (.code (.scope c) :: k) st Q ↔ AK L (.code c :: k) st Q := AK_step fun _ _ => rfl
theorem AK_seq {a b : ACode} : AK L (.code (.seq a b) :: k) st Q ↔ AK L (.code a :: .code b :: k) st Q := AK_step fun _ _ => rfl
theorem AK_block {id : Nat} {c : ACode} : AK L (.code (.block id c) :: k) st Q ↔ AK L (.code c :: .blk id :: k) st Q := AK_step fun _ _ => rfl
theorem AK_loop {c : ACode} : AK L (.code (.loop c) :: k) st Q ↔ AK L (.code c :: .lp c :: k) st Q := AK_step fun _ _ => rfl
theorem AK_exit {id : Nat} {k' : List It} (h : exitA id k = some k') : AK L (.code (.exit id) :: k) st Q ↔ AK L k' st Q := AK_step fun C n => by simp [run, h]
theorem AK_ret : AK L (.code .ret :: k) st Q ↔ Q st := by
 constructor
 ·rintro ⟨n, c, st', hr, hq⟩
  cases n with
  | zero => simp [run] at hr
  | succ n => simp only [run, Option.some.injEq] at hr; exact hr ▸ hq
 ·exact fun h => ⟨1, 0, st, rfl, h⟩
theorem AK_cond {x : Opd} {a b : ACode} {t : Bool} (h : st.ev x = .bool t) : AK L (.code (.cond x a b) :: k) st Q ↔ if t = true then AK L (.code a :: k) st Q else AK L (.code b :: k) st Q := by
 cases t
 ·simpa using AK_step (k' := .code b :: k) (st1 := st) fun C n => by simp [run, h]
 ·simpa using AK_step (k' := .code a :: k) (st1 := st) fun C n => by simp [run, h]
theorem AK_ops {l : List AI} {d : Bool} : AK L (.code (.ops l d) :: k) st Q ↔ AO L l k st Q := by
 constructor
 ·rintro ⟨n, c, st', hr, hq⟩
  cases n with
  | zero => simp [run] at hr
  | succ n =>
   simp only [run] at hr
   split at hr
   ·rename_i st1 hs
    exact ⟨n, c, st1, st', hs, hr, hq⟩
   ·cases hr
 ·rintro ⟨n, c, st1, st', hs, hr, hq⟩
  exact ⟨n + 1, c, st', by simp [run, hs, hr], hq⟩
theorem AO_nil : AO L [] k st Q ↔ AK L k st Q := by
 constructor
 ·rintro ⟨n, c, st1, st', hs, hr, hq⟩
  simp only [stepL, Option.some.injEq] at hs
  exact ⟨n, c, st', hs ▸ hr, hq⟩
 ·rintro ⟨n, c, st', hr, hq⟩
  exact ⟨n, c, st, st', rfl, hr, hq⟩
theorem AO_step {o : AI} {l : List AI} {st1 : St} (h : ∀ C, stepI C o st = some st1) : AO L (o :: l) k st Q ↔ AO L l k st1 Q := by
 constructor
 ·rintro ⟨n, c, st2, st', hs, hr, hq⟩
  simp only [stepL, h] at hs
  exact ⟨n, c, st2, st', hs, hr, hq⟩
 ·rintro ⟨n, c, st2, st', hs, hr, hq⟩
  exact ⟨n, c, st2, st', by simpa only [stepL, h] using hs, hr, hq⟩
theorem AO_not {d : Option Nat} {op : AOp} {g : Option (Nat × Bool)} {ban : List Nat} {l : List AI} (h : guardA st g = some false) : AO L (⟨d, op, g, ban⟩ :: l) k st Q ↔ AO L l k (st.dst d (.tup [])) Q :=
 AO_step fun C => by simp [stepI, h]
theorem clAt_num (c : Nat) : (clAt L c).num = L.num := rfl
theorem AO_opL {d : Option Nat} {op : AOp} {g : Option (Nat × Bool)} {ban : List Nat} {l : List AI} {E : Eff} (h : guardA st g = some true) (he : ∀ c, eff (clAt L c) ban st.ev st.own op = some E) : AO L (⟨d, op, g, ban⟩ :: l) k st Q ↔ AO L l k (st.app d E) Q := by
 have h : ∀ c, stepI (clAt L c) ⟨d, op, g, ban⟩ st = some (st.app d E) := fun c => by simp [stepI, h, he]
 constructor
 ·rintro ⟨n, c, st2, st', hs, hr, hq⟩
  simp only [stepL, h] at hs
  exact ⟨n, c, st2, st', hs, hr, hq⟩
 ·rintro ⟨n, c, st2, st', hs, hr, hq⟩
  exact ⟨n, c, st2, st', by simpa only [stepL, h] using hs, hr, hq⟩
theorem AO_call {d : Option Nat} {f : Nat} {xs : List Opd} {g : Option (Nat × Bool)} {ban : List Nat} {l : List AI} {vs : List AV} {r : AV} (h : guardA st g = some true) (hv : (xs.map st.ev).mapM (snapA (st.own.hide ban) true) = some vs) (hr : Ev L f vs r) :
  AO L (⟨d, .call f xs, g, ban⟩ :: l) k st Q ↔ AO L l k (st.dst d r) Q := by
 have hst : ∀ c r', evP L c f vs = some r' → stepI (clAt L c) ⟨d, .call f xs, g, ban⟩ st = some (st.dst d r') := fun c r' hc => by
  have hc' : (clAt L c).pure f vs = some r' := hc
  simp [stepI, h, eff, hv, hc', St.app]
 constructor
 ·rintro ⟨n, c, st2, st', hs, hrn, hq⟩
  simp only [stepL] at hs
  cases hI : stepI (clAt L c) ⟨d, .call f xs, g, ban⟩ st with
  | none => simp [hI] at hs
  | some st1 =>
   simp only [hI] at hs
   cases hp : evP L c f vs with
   | none =>
    have hc' : (clAt L c).pure f vs = none := hp
    simp [stepI, h, eff, hv, hc'] at hI
   | some r' =>
    obtain rfl : r' = r := Ev.det ⟨c, hp⟩ hr
    rw [hst c r' hp] at hI
    obtain rfl := Option.some.inj hI
    exact ⟨n, c, st2, st', hs, hrn, hq⟩
 ·rintro ⟨n, c, st2, st', hs, hrn, hq⟩
  obtain ⟨c', hc'⟩ := hr
  have l1 := cl_le (L := L) (Nat.le_max_left c c')
  have l2 := cl_le (L := L) (Nat.le_max_right c c')
  refine ⟨n, max c c', st2, st', ?_, run_mono l1 (Nat.le_refl n) hrn, hq⟩
  simp only [stepL]
  rw [hst (max c c') r (l2.1 f vs r hc')]
  exact stepL_mono l1 hs
theorem AO_callp {d : Option Nat} {f : Nat} {x : Opd} {xs : List Opd} {g : Option (Nat × Bool)} {ban : List Nat} {l : List AI} {vs : List AV} {r : AV} (h : guardA st g = some true) (hx : st.ev x = .fn true f (L.num f) []) (hv : (xs.map st.ev).mapM (snapA st.own true) = some vs) (hr : Ev L f vs r) :
  AO L (⟨d, .callv x xs, g, ban⟩ :: l) k st Q ↔ AO L l k (st.dst d r) Q := by
 have hst : ∀ c r', evP L c f vs = some r' → stepI (clAt L c) ⟨d, .callv x xs, g, ban⟩ st = some (st.dst d r') := fun c r' hc => by
  have hc' : (clAt L c).pure f vs = some r' := hc
  simp [stepI, h, eff, hx, clAt_num, hv, hc', St.app]
 constructor
 ·rintro ⟨n, c, st2, st', hs, hrn, hq⟩
  simp only [stepL] at hs
  cases hI : stepI (clAt L c) ⟨d, .callv x xs, g, ban⟩ st with
  | none => simp [hI] at hs
  | some st1 =>
   simp only [hI] at hs
   cases hp : evP L c f vs with
   | none =>
    have hc' : (clAt L c).pure f vs = none := hp
    simp [stepI, h, eff, hx, clAt_num, hv, hc'] at hI
   | some r' =>
    obtain rfl : r' = r := Ev.det ⟨c, hp⟩ hr
    rw [hst c r' hp] at hI
    obtain rfl := Option.some.inj hI
    exact ⟨n, c, st2, st', hs, hrn, hq⟩
 ·rintro ⟨n, c, st2, st', hs, hrn, hq⟩
  obtain ⟨c', hc'⟩ := hr
  have l1 := cl_le (L := L) (Nat.le_max_left c c')
  have l2 := cl_le (L := L) (Nat.le_max_right c c')
  refine ⟨n, max c c', st2, st', ?_, run_mono l1 (Nat.le_refl n) hrn, hq⟩
  simp only [stepL]
  rw [hst (max c c') r (l2.1 f vs r hc')]
  exact stepL_mono l1 hs
theorem AO_callq {d : Option Nat} {f : Nat} {xs : List Opd} {g : Option (Nat × Bool)} {ban : List Nat} {l : List AI} {r : AV} (h : guardA st g = some true) (hq : (xs.map st.ev).all dq = true) (hr : Ev L f ((xs.map st.ev).map unl) r) (hfl : FlatR r) :
  AO L (⟨d, .callq f xs, g, ban⟩ :: l) k st Q ↔ AO L l k (st.dst d (lnd r)) Q := by
 have hst : ∀ c, evP L c f ((xs.map st.ev).map unl) = some r → stepI (clAt L c) ⟨d, .callq f xs, g, ban⟩ st = some (st.dst d (lnd r)) := fun c hc => by
  have hc' : (clAt L c).pure f ((xs.map st.ev).map unl) = some r := hc
  simp only [stepI, h, eff]
  rw [if_pos hq, hc']
  simp only [if_pos hfl, Option.map_some, St.app]
 constructor
 ·rintro ⟨n, c, st2, st', hs, hrn, hq'⟩
  simp only [stepL] at hs
  cases hp : evP L c f ((xs.map st.ev).map unl) with
  | none =>
   have hc' : (clAt L c).pure f ((xs.map st.ev).map unl) = none := hp
   simp only [stepI, h, eff] at hs
   rw [if_pos hq, hc'] at hs
   simp at hs
  | some r' =>
   obtain rfl : r' = r := Ev.det ⟨c, hp⟩ hr
   rw [hst c hp] at hs
   exact ⟨n, c, st2, st', hs, hrn, hq'⟩
 ·rintro ⟨n, c, st2, st', hs, hrn, hq'⟩
  obtain ⟨c', hc'⟩ := hr
  have l1 := cl_le (L := L) (Nat.le_max_left c c')
  have l2 := cl_le (L := L) (Nat.le_max_right c c')
  refine ⟨n, max c c', st2, st', ?_, run_mono l1 (Nat.le_refl n) hrn, hq'⟩
  simp only [stepL]
  rw [hst (max c c') (l2.1 f _ r hc')]
  exact stepL_mono l1 hs
theorem AO_callr {d : Option Nat} {s f : Nat} {xs : List Opd} {g : Option (Nat × Bool)} {ban : List Nat} {l : List AI} {vs : List AV} {z : Nat} {es : List (List AV)} (h : guardA st g = some true) (hv : (xs.map st.ev).mapM (snapN (st.own.hide ban) true) = some vs) (hr : EvR L f vs z es)
  (ha : AO L l k (st.app d (.new s ⟨z, es⟩ (fun t => .row s t z 0 es.length))) Q) : AO L (⟨d, .callr s f xs, g, ban⟩ :: l) k st Q := by
 obtain ⟨n, c, st2, st', hs, hrn, hq⟩ := ha
 obtain ⟨c', hc'⟩ := hr
 have l1 := cl_le (L := L) (Nat.le_max_left c c')
 have l2 := cl_le (L := L) (Nat.le_max_right c c')
 have hc2 : adoptR ((clAt L (max c c')).inn f vs Own.emp) = some (z, es) := adoptR_mono (l2.2.1 f vs Own.emp) hc'
 refine ⟨n, max c c', st2, st', ?_, run_mono l1 (Nat.le_refl n) hrn, hq⟩
 simp only [stepL]
 have : stepI (clAt L (max c c')) ⟨d, .callr s f xs, g, ban⟩ st = some (st.app d (.new s ⟨z, es⟩ (fun t => .row s t z 0 es.length))) := by
  simp only [stepI, h, eff, hv, hc2, Option.map_some]
 rw [this]
 exact stepL_mono l1 hs
theorem AO_calli {d : Option Nat} {f : Nat} {xs : List Opd} {g : Option (Nat × Bool)} {ban : List Nat} {l : List AI} {r : AV} {o' : Own} (h : guardA st g = some true) (hr : EvI L f (xs.map st.ev) st.own r o') :
  AO L (⟨d, .calli f xs, g, ban⟩ :: l) k st Q ↔ AO L l k { (st.dst d r) with own := o' } Q := by
 have hst : ∀ c r' o1, evI L c f (xs.map st.ev) st.own = some (r', o1) → stepI (clAt L c) ⟨d, .calli f xs, g, ban⟩ st = some { (st.dst d r') with own := o1 } := fun c r' o1 hc => by
  have hc' : (clAt L c).inn f (xs.map st.ev) st.own = some (r', o1) := hc
  simp [stepI, h, eff, hc', St.app]
 constructor
 ·rintro ⟨n, c, st2, st', hs, hrn, hq⟩
  simp only [stepL] at hs
  cases hI : stepI (clAt L c) ⟨d, .calli f xs, g, ban⟩ st with
  | none => simp [hI] at hs
  | some st1 =>
   simp only [hI] at hs
   cases hp : evI L c f (xs.map st.ev) st.own with
   | none =>
    have hc' : (clAt L c).inn f (xs.map st.ev) st.own = none := hp
    simp [stepI, h, eff, hc'] at hI
   | some x =>
    obtain ⟨r', o1⟩ := x
    obtain ⟨rfl, rfl⟩ := EvI.det ⟨c, hp⟩ hr
    rw [hst c r' o1 hp] at hI
    obtain rfl := Option.some.inj hI
    exact ⟨n, c, st2, st', hs, hrn, hq⟩
 ·rintro ⟨n, c, st2, st', hs, hrn, hq⟩
  obtain ⟨c', hc'⟩ := hr
  have l1 := cl_le (L := L) (Nat.le_max_left c c')
  have l2 := cl_le (L := L) (Nat.le_max_right c c')
  refine ⟨n, max c c', st2, st', ?_, run_mono l1 (Nat.le_refl n) hrn, hq⟩
  simp only [stepL]
  rw [hst (max c c') r o' (l2.2.1 f _ _ _ hc')]
  exact stepL_mono l1 hs
theorem AO_callv {d : Option Nat} {f : Nat} {cs : List AV} {x : Opd} {xs : List Opd} {g : Option (Nat × Bool)} {ban : List Nat} {l : List AI} {r : AV} {o' : Own} (h : guardA st g = some true) (hx : st.ev x = .fn false f (L.num f) cs) (hr : EvI L f (xs.map st.ev ++ cs) st.own r o') :
  AO L (⟨d, .callv x xs, g, ban⟩ :: l) k st Q ↔ AO L l k { (st.dst d r) with own := o' } Q := by
 have hst : ∀ c r' o1, evI L c f (xs.map st.ev ++ cs) st.own = some (r', o1) → stepI (clAt L c) ⟨d, .callv x xs, g, ban⟩ st = some { (st.dst d r') with own := o1 } := fun c r' o1 hc => by
  have hc' : (clAt L c).inn f (xs.map st.ev ++ cs) st.own = some (r', o1) := hc
  simp [stepI, h, eff, hx, clAt_num, hc', St.app]
 constructor
 ·rintro ⟨n, c, st2, st', hs, hrn, hq⟩
  simp only [stepL] at hs
  cases hI : stepI (clAt L c) ⟨d, .callv x xs, g, ban⟩ st with
  | none => simp [hI] at hs
  | some st1 =>
   simp only [hI] at hs
   cases hp : evI L c f (xs.map st.ev ++ cs) st.own with
   | none =>
    have hc' : (clAt L c).inn f (xs.map st.ev ++ cs) st.own = none := hp
    simp [stepI, h, eff, hx, clAt_num, hc'] at hI
   | some x =>
    obtain ⟨r', o1⟩ := x
    obtain ⟨rfl, rfl⟩ := EvI.det ⟨c, hp⟩ hr
    rw [hst c r' o1 hp] at hI
    obtain rfl := Option.some.inj hI
    exact ⟨n, c, st2, st', hs, hrn, hq⟩
 ·rintro ⟨n, c, st2, st', hs, hrn, hq⟩
  obtain ⟨c', hc'⟩ := hr
  have l1 := cl_le (L := L) (Nat.le_max_left c c')
  have l2 := cl_le (L := L) (Nat.le_max_right c c')
  refine ⟨n, max c c', st2, st', ?_, run_mono l1 (Nat.le_refl n) hrn, hq⟩
  simp only [stepL]
  rw [hst (max c c') r o' (l2.2.1 f _ _ _ hc')]
  exact stepL_mono l1 hs
theorem AK_mono {Q' : St → Prop} (h : AK L k st Q) (hq : ∀ s, Q s → Q' s) : AK L k st Q' := by
 obtain ⟨n, c, st', hr, hh⟩ := h
 exact ⟨n, c, st', hr, hq _ hh⟩
theorem EvI.intro {f : Nat} {fn : AFn} {vs : List AV} {o : Own} {r : AV} {o' : Own} (hL : L f = some fn) (hp : vs.length = fn.pars) (h : AK L [.code fn.body] ⟨initTm 0 vs, o⟩ (fun st => (fn.res.mapM (resOf st)).map resVal = some r ∧ st.own = o')) : EvI L f vs o r o' := by
 obtain ⟨n, c, st', hr, h1, h2⟩ := h
 refine ⟨max n c + 1, ?_⟩
 rw [evI_succ]
 simp only [hL, hp, if_true]
 rw [run_mono (cl_le (L := L) (Nat.le_max_right n c)) (Nat.le_max_left n c) hr]
 cases hm : fn.res.mapM (resOf st') with
 | none => rw [hm] at h1; cases h1
 | some rs =>
  rw [hm] at h1
  simp only [Option.map_some, Option.some.injEq] at h1
  simp [hm, h1, h2]
theorem EvD.intro {f : Nat} {fn : AFn} {vs : List AV} {r : AV} (hL : L f = some fn) (hp : vs.length = fn.pars) (h : AK L [.code fn.body] ⟨initTm 0 vs, Own.emp⟩ (fun st => ((fn.res.mapM (resOf st)).map resVal).bind (snapR st.own false) = some r ∧ Clean r)) : EvD L f vs r := by
 obtain ⟨n, c, st', hr, h1, h2⟩ := h
 cases hm : (fn.res.mapM (resOf st')).map resVal with
 | none => rw [hm] at h1; cases h1
 | some r0 =>
  rw [hm] at h1
  simp only [Option.bind_some] at h1
  obtain ⟨q, hq⟩ := EvI.intro (o := Own.emp) (r := r0) (o' := st'.own) hL hp ⟨n, c, st', hr, hm, rfl⟩
  refine ⟨q, ?_⟩
  unfold pureP
  simp [hq, h1, h2]
theorem EvD.ev {f : Nat} {fn : AFn} {vs : List AV} {r : AV} (hL : L f = some fn) (h : EvD L f vs r) (hs : fn.spl = false := by rfl) : Ev L f vs r := by
 obtain ⟨n, h⟩ := h
 have hs : L.spl f = false := by simp only [Lib.spl, hL, hs]
 exact ⟨n, by unfold evP pureS; rw [hs]; exact h⟩
theorem EvD.cons {f : Nat} {q : Bool} {e : List AV} {es : List (List AV)} {vs : List AV} {r : AV} (h : EvD L f (.sl q (e :: es) :: vs) r) : Ev L f (.sl q (e :: es) :: vs) r := by
 obtain ⟨n, h⟩ := h
 refine ⟨n, ?_⟩
 unfold evP pureS
 split
 ·rename_i heq; simp at heq
 ·exact h
theorem EvD.nil {f : Nat} {fn : AFn} {q : Bool} {vs : List AV} {r : AV} (hL : L f = some fn) (h1 : EvD L f (.con (.bool true) :: vs) r) (h2 : EvD L f (.con (.bool false) :: vs) r) (hs : fn.spl = true := by rfl) : Ev L f (.sl q [] :: vs) r := by
 obtain ⟨n, h1⟩ := h1
 obtain ⟨n', h2⟩ := h2
 have hs : L.spl f = true := by simp only [Lib.spl, hL, hs]
 have k1 := pureP_mono (fun vs r h => (cl_le (L := L) (Nat.le_max_left n n')).2.1 f vs Own.emp r h) h1
 have k2 := pureP_mono (fun vs r h => (cl_le (L := L) (Nat.le_max_right n n')).2.1 f vs Own.emp r h) h2
 refine ⟨max n n', ?_⟩
 unfold evP pureS
 rw [hs]
 simp only
 have k1' : pureP (fun vs => evI L (max n n') f vs Own.emp) (.con (.bool true) :: vs) = some r := k1
 have k2' : pureP (fun vs => evI L (max n n') f vs Own.emp) (.con (.bool false) :: vs) = some r := k2
 rw [k1', k2']
 simp
theorem Ev.intro {f : Nat} {fn : AFn} {vs : List AV} {r : AV} (hL : L f = some fn) (hp : vs.length = fn.pars) (h : AK L [.code fn.body] ⟨initTm 0 vs, Own.emp⟩ (fun st => ((fn.res.mapM (resOf st)).map resVal).bind (snapR st.own false) = some r ∧ Clean r)) (hs : fn.spl = false := by rfl) : Ev L f vs r :=
 (EvD.intro hL hp h).ev hL hs
end
end Go.Eng

namespace Go.Eng
section
variable {L : Lib} {k : List It} {tm : Tm} {own : Own} {Q : St → Prop} {l : List AI} {ban : List Nat} {d : Nat}
theorem tget_cons (i : Nat) (v : AV) (r : Tm) (j : Nat) : tget ((i, v) :: r) j = if j = i then v else tget r j := rfl
theorem tget_nil (j : Nat) : tget [] j = .any := rfl
theorem tdrop_cons (i : Nat) (v : AV) (r : Tm) (l : List Nat) : tdrop ((i, v) :: r) l = if l.contains i then tdrop r l else (i, v) :: tdrop r l := rfl
theorem tdrop_nil (l : List Nat) : tdrop [] l = [] := rfl
theorem initTm_cons (i : Nat) (v : AV) (r : List AV) : initTm i (v :: r) = (i, v) :: initTm (i + 1) r := rfl
end
end Go.Eng

namespace Go.Eng
section
variable {L : Lib} {k : List It} {tm : Tm} {own : Own} {st : St} {Q : St → Prop} {l : List AI} {ban : List Nat} {d : Nat} {dst : Option Nat}
section
variable {x y : Opd} {kd : IntKind} {a b : Int}
end
def Res (fn : AFn) (r : AV) (st : St) : Prop := ((fn.res.mapM (resOf st)).map resVal).bind (snapR st.own false) = some r ∧ Clean r
theorem Ev.fwd {f : Nat} {fn : AFn} {vs : List AV} {r : AV} (hL : L f = some fn) (hp : vs.length = fn.pars) (h : AK L [.code fn.body] ⟨initTm 0 vs, Own.emp⟩ (Res fn r)) (hs : fn.spl = false := by rfl) : Ev L f vs r := Ev.intro hL hp h hs
theorem EvD.fwd {f : Nat} {fn : AFn} {vs : List AV} {r : AV} (hL : L f = some fn) (hp : vs.length = fn.pars) (h : AK L [.code fn.body] ⟨initTm 0 vs, Own.emp⟩ (Res fn r)) : EvD L f vs r := EvD.intro hL hp h
theorem Res.bool {fn : AFn} {st : St} (x : Bool) {r : AV} (h : ((fn.res.mapM (resOf st)).map resVal).bind (snapR st.own false) = some (.bool x)) (e : .bool x = r) : Res fn r st := by
 subst e; exact ⟨h, by simp [Clean]⟩
theorem Res.int {fn : AFn} {st : St} (kd : IntKind) (x : Int) {r : AV} (h : ((fn.res.mapM (resOf st)).map resVal).bind (snapR st.own false) = some (.int kd x)) (e : .int kd x = r) : Res fn r st := by
 subst e; exact ⟨h, by simp [Clean]⟩
end
attribute [irreducible] Res
end Go.Eng

namespace Go.Eng
def pw (n : Int) : Int := 2 ^ n.toNat
theorem pw_pos (n : Int) : 1 ≤ pw n := by
 have : 0 < pw n := Int.pow_pos (by decide)
 omega
theorem pw_le {n m : Int} (h : n ≤ m) : pw n ≤ pw m := by
 unfold pw
 have h' : n.toNat ≤ m.toNat := by omega
 have h2 := Nat.pow_le_pow_right (n := 2) (by decide) h'
 have h3 : ((2 ^ n.toNat : Nat) : Int) ≤ ((2 ^ m.toNat : Nat) : Int) := by exact_mod_cast h2
 simpa using h3
theorem pw_le62 {n : Int} (h : n ≤ 62) : pw n ≤ 4611686018427387904 := pw_le (m := 62) h
theorem pw_succ {n : Int} (h : 1 ≤ n) : pw n = 2 * pw (n - 1) := by
 unfold pw
 have e : n.toNat = (n - 1).toNat + 1 := by omega
 rw [e, Int.pow_succ, Int.mul_comm]
theorem wrap_pos {a : Int} (h : 0 ≤ a) (h' : a ≤ 9223372036854775807) : IntKind.i64.wrap a = a := IntWalk.i64_in _ ⟨by omega, h'⟩
theorem shl_one {k2 : IntKind} {n : Int} (h : 0 ≤ n ∧ n ≤ 62) : intBin .shl .i64 1 k2 n = some (.int .i64 (pw n)) := by
 have h1 := pw_le62 h.2
 have h2 := pw_pos n
 have e : (1 : Int) * 2 ^ (min n.toNat IntKind.i64.bits) = pw n := by
  have : min n.toNat IntKind.i64.bits = n.toNat := by simp only [IntKind.bits]; omega
  rw [this, Int.one_mul]; rfl
 simp only [intBin]
 rw [if_neg (by omega), e, wrap_pos (by omega) (by omega)]
theorem shr_div {k2 : IntKind} {a n : Int} (h : 0 ≤ n ∧ n ≤ 63) : intBin .shr .i64 a k2 n = some (.int .i64 (a / pw n)) := by
 have h2 := pw_pos n
 have e : (2 : Int) ^ (min n.toNat IntKind.i64.bits) = pw n := by
  have : min n.toNat IntKind.i64.bits = n.toNat := by simp only [IntKind.bits]; omega
  rw [this]; rfl
 simp only [intBin]
 rw [if_neg (by omega), e, Int.fdiv_eq_ediv_of_nonneg _ (by omega)]
theorem and_mask {a p n : Int} (hp : p = pw n) (h : 0 ≤ n ∧ n ≤ 62) : intBin .and .i64 a .i64 (p - 1) = some (.int .i64 (a % p)) := by
 have h1 := pw_le62 h.2
 have h2 := pw_pos n
 simp only [intBin, if_true]
 have hn : n.toNat ≤ 64 := by omega
 have e0 : pw n = ((2 ^ n.toNat : Nat) : Int) := by simp [pw]
 have e1 : (BitVec.ofInt IntKind.i64.bits (p - 1)).toNat = 2 ^ n.toNat - 1 := by
  have hq : (2 : Nat) ^ n.toNat ≤ 4611686018427387904 := by
   have : ((2 ^ n.toNat : Nat) : Int) ≤ 4611686018427387904 := by rw [← e0]; exact h1
   omega
  rw [BitVec.toNat_ofInt]
  simp only [IntKind.bits]
  rw [hp, e0]
  have hz : 1 ≤ 2 ^ n.toNat := Nat.one_le_two_pow
  omega
 have e2 : (BitVec.ofInt IntKind.i64.bits a).toNat = (a % 18446744073709551616).toNat := by
  rw [BitVec.toNat_ofInt]; rfl
 have e3 : ((a % 18446744073709551616).toNat % 2 ^ n.toNat : Nat) = (a % pw n).toNat := by
  have hd : (pw n) ∣ 18446744073709551616 := by
   refine ⟨2 ^ (64 - n.toNat), ?_⟩
   unfold pw
   rw [← Int.pow_add, show n.toNat + (64 - n.toNat) = 64 by omega]; rfl
  have h3 : (a % 18446744073709551616) % pw n = a % pw n := Int.emod_emod_of_dvd a hd
  have h4 : (((a % 18446744073709551616).toNat % 2 ^ n.toNat : Nat) : Int) = (a % 18446744073709551616) % pw n := by
   rw [Int.natCast_emod, ← e0, Int.toNat_of_nonneg (by omega)]
  have h5 : 0 ≤ a % pw n := Int.emod_nonneg _ (by omega)
  omega
 have h5 : 0 ≤ a % pw n := Int.emod_nonneg _ (by omega)
 have h6 : a % pw n < pw n := Int.emod_lt_of_pos _ (by omega)
 rw [BitVec.toNat_and, e1, Nat.and_two_pow_sub_one_eq_mod, e2, e3, hp, Int.toNat_of_nonneg h5, wrap_pos h5 (by omega)]
theorem and_one {a : Int} : intBin .and .i64 a .i64 1 = some (.int .i64 (a % 2)) := and_mask (p := 2) (n := 1) rfl ⟨by decide, by decide⟩
theorem tmod_pos {a m : Int} (hm : 0 < m) : a.tmod m = if 0 ≤ a ∨ a % m = 0 then a % m else a % m - m := by
 have h := Int.tmod_eq_emod (a := a) (b := m)
 rw [h]
 have hd : m ∣ a ↔ a % m = 0 := Int.dvd_iff_emod_eq_zero
 by_cases h0 : 0 ≤ a ∨ a % m = 0
 ·rw [if_pos h0, if_pos (by rcases h0 with h0 | h0; exact Or.inl h0; exact Or.inr (hd.2 h0))]; omega
 ·rw [if_neg h0, if_neg (fun h => h0 (h.imp id hd.1))]
  have : (m.natAbs : Int) = m := by omega
  omega
theorem tdiv_pos {a m : Int} (hm : 0 < m) : a.tdiv m = if 0 ≤ a ∨ a % m = 0 then a / m else a / m + 1 := by
 have h := Int.tdiv_eq_ediv (a := a) (b := m)
 rw [h]
 have hd : m ∣ a ↔ a % m = 0 := Int.dvd_iff_emod_eq_zero
 by_cases h0 : 0 ≤ a ∨ a % m = 0
 ·rw [if_pos h0, if_pos (by rcases h0 with h0 | h0; exact Or.inl h0; exact Or.inr (hd.2 h0))]; omega
 ·rw [if_neg h0, if_neg (fun h => h0 (h.imp id hd.1)), Int.sign_eq_one_of_pos hm]
theorem ediv_range {a m : Int} (hm : 1 ≤ m) (h : -9223372036854775808 ≤ a ∧ a ≤ 9223372036854775807) : -9223372036854775808 ≤ a / m ∧ a / m ≤ 9223372036854775807 := by
 constructor
 ·rw [Int.le_ediv_iff_mul_le (by omega)]
  have := Int.mul_le_mul_of_nonpos_left (a := -9223372036854775808) (b := m) (c := 1) (by omega) hm
  omega
 ·have : a / m < 9223372036854775808 := by
   rw [Int.ediv_lt_iff_lt_mul (by omega)]
   have := Int.mul_le_mul_of_nonneg_left (c := 9223372036854775808) (a := 1) (b := m) hm (by omega)
   omega
  omega
theorem ediv_half {a m : Int} (hm : 2 ≤ m) (h : -9223372036854775808 ≤ a ∧ a ≤ 9223372036854775807) : -4611686018427387904 ≤ a / m ∧ a / m ≤ 4611686018427387904 := by
 constructor
 ·rw [Int.le_ediv_iff_mul_le (by omega)]
  have := Int.mul_le_mul_of_nonpos_left (a := -4611686018427387904) (b := m) (c := 2) (by omega) hm
  omega
 ·have : a / m < 4611686018427387904 + 1 := by
   rw [Int.ediv_lt_iff_lt_mul (by omega)]
   have := Int.mul_le_mul_of_nonneg_left (c := 4611686018427387905) (a := 2) (b := m) hm (by omega)
   omega
  omega
theorem half_bit {v h : Int} (hh : 1 ≤ h) : (v / h) % 2 = if h ≤ v % (2 * h) then 1 else 0 := by
 have e : v / h = v % (2 * h) / h + 2 * (v / (2 * h)) := by
  conv => lhs; rw [← Int.emod_add_mul_ediv v (2 * h)]
  rw [show 2 * h * (v / (2 * h)) = h * (2 * (v / (2 * h))) by rw [Int.mul_comm 2 h, Int.mul_assoc], Int.add_mul_ediv_left _ _ (by omega)]
 have h0 : 0 ≤ v % (2 * h) := Int.emod_nonneg _ (by omega)
 have h1 : v % (2 * h) < 2 * h := Int.emod_lt_of_pos _ (by omega)
 rw [e]
 by_cases hc : h ≤ v % (2 * h)
 ·have : v % (2 * h) / h = 1 := by
   have a1 : 1 ≤ v % (2 * h) / h := by rw [Int.le_ediv_iff_mul_le (by omega)]; omega
   have a2 : v % (2 * h) / h < 2 := by rw [Int.ediv_lt_iff_lt_mul (by omega)]; omega
   omega
  rw [if_pos hc, this]; omega
 ·have : v % (2 * h) / h = 0 := Int.ediv_eq_zero_of_lt h0 (by omega)
  rw [if_neg hc, this]; omega
section
variable {L : Lib} {k : List It} {tm : Tm} {own : Own} {Q : St → Prop} {l : List AI} {ban : List Nat} {d : Nat} {x y : Opd} {a b n p : Int} {k2 : IntKind}
end
end Go.Eng
