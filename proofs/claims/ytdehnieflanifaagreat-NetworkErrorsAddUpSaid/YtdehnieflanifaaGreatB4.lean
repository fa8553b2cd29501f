/-
  Functions of the program, as the abstract machine reads them (group NatG). Written by a program (gen.py) off the model's own reading of the translation; the seat's check ties them to it.
-/
import Derived.Test.YtdehnieflanifaaGreatB1
import Derived.Test.YtdehnieflanifaaGreatB3
set_option linter.unusedSimpArgs false
set_option linter.unusedVariables false
set_option linter.unnecessarySimpa false
namespace Go.Eng.F
open C
namespace cmp_isNaN_int
def r0:List AI:=[o 2 (.mov (.c (.bool false)))]
def r1:List AI:=[m 3 0,m 4 0,o 5 (.bin .neq 3 4),m 2 5]
def c:ACode:=(.seq (.dr (.ops r0 false) [2] []) (.seq (.dr (.ops r1 false) [0,3,4,5] []) .ret))
end cmp_isNaN_int
def cmp_isNaN_int:AFn:=⟨1,cmp_isNaN_int.c,[.tmp 2],false⟩
namespace cmp_isNaN_uint32
def r0:List AI:=[o 2 (.mov (.c (.bool false)))]
def r1:List AI:=[m 3 0,m 4 0,o 5 (.bin .neq 3 4),m 2 5]
def c:ACode:=(.seq (.dr (.ops r0 false) [2] []) (.seq (.dr (.ops r1 false) [0,3,4,5] []) .ret))
end cmp_isNaN_uint32
def cmp_isNaN_uint32:AFn:=⟨1,cmp_isNaN_uint32.c,[.tmp 2],false⟩
namespace cmp_Compare_int
def r0:List AI:=[o 4 (.mov (k 0))]
def r1:List AI:=[m 7 0,o 8 (.call 58 [7]),m 5 8]
def r2:List AI:=[m 9 1,o 10 (.call 58 [9]),m 6 10]
def r3:List AI:=[m 11 5]
def r4:List AI:=[m 12 6]
def r5:List AI:=[o 4 (.mov (k 0))]
def r6:List AI:=[o 4 (.mov (k (-1)))]
def r7:List AI:=[m 13 6]
def r8:List AI:=[o 4 (.mov (k 1))]
def r9:List AI:=[m 14 0,m 15 1,o 16 (.bin .lss 14 15)]
def r10:List AI:=[o 4 (.mov (k (-1)))]
def r11:List AI:=[m 17 0,m 18 1,o 19 (.bin .gtr 17 18)]
def r12:List AI:=[o 4 (.mov (k 1))]
def r13:List AI:=[o 4 (.mov (k 0))]
def c:ACode:=(.seq (.dr (.ops r0 false) [4] []) (.seq (.dr (.ops r1 false) [7,8] []) (.seq (.dr (.ops r2 false) [9,10] []) (.seq (.seq (.dr (.ops r3 false) [5] []) (.cond 11 (.seq (.seq (.dr (.ops r4 false) [0,1,6,11] []) (.cond 12 (.seq (.dr (.ops r5 false) [12] []) .ret) .skip)) (.seq (.dr (.ops r6 false) [12] []) .ret)) .skip)) (.seq (.seq (.dr (.ops r7 false) [6,11] []) (.cond 13 (.seq (.dr (.ops r8 false) [0,1,13] []) .ret) .skip)) (.seq (.seq (.dr (.ops r9 false) [13,14,15] []) (.cond 16 (.seq (.dr (.ops r10 false) [0,1,16] []) .ret) .skip)) (.seq (.seq (.dr (.ops r11 false) [0,1,16,17,18] []) (.cond 19 (.seq (.dr (.ops r12 false) [19] []) .ret) .skip)) (.seq (.dr (.ops r13 false) [19] []) .ret))))))))
end cmp_Compare_int
def cmp_Compare_int:AFn:=⟨2,cmp_Compare_int.c,[.tmp 4],false⟩
namespace cmp_Compare_uint32
def r0:List AI:=[o 4 (.mov (k 0))]
def r1:List AI:=[m 7 0,o 8 (.call 59 [7]),m 5 8]
def r2:List AI:=[m 9 1,o 10 (.call 59 [9]),m 6 10]
def r3:List AI:=[m 11 5]
def r4:List AI:=[m 12 6]
def r5:List AI:=[o 4 (.mov (k 0))]
def r6:List AI:=[o 4 (.mov (k (-1)))]
def r7:List AI:=[m 13 6]
def r8:List AI:=[o 4 (.mov (k 1))]
def r9:List AI:=[m 14 0,m 15 1,o 16 (.bin .lss 14 15)]
def r10:List AI:=[o 4 (.mov (k (-1)))]
def r11:List AI:=[m 17 0,m 18 1,o 19 (.bin .gtr 17 18)]
def r12:List AI:=[o 4 (.mov (k 1))]
def r13:List AI:=[o 4 (.mov (k 0))]
def c:ACode:=(.seq (.dr (.ops r0 false) [4] []) (.seq (.dr (.ops r1 false) [7,8] []) (.seq (.dr (.ops r2 false) [9,10] []) (.seq (.seq (.dr (.ops r3 false) [5] []) (.cond 11 (.seq (.seq (.dr (.ops r4 false) [0,1,6,11] []) (.cond 12 (.seq (.dr (.ops r5 false) [12] []) .ret) .skip)) (.seq (.dr (.ops r6 false) [12] []) .ret)) .skip)) (.seq (.seq (.dr (.ops r7 false) [6,11] []) (.cond 13 (.seq (.dr (.ops r8 false) [0,1,13] []) .ret) .skip)) (.seq (.seq (.dr (.ops r9 false) [13,14,15] []) (.cond 16 (.seq (.dr (.ops r10 false) [0,1,16] []) .ret) .skip)) (.seq (.seq (.dr (.ops r11 false) [0,1,16,17,18] []) (.cond 19 (.seq (.dr (.ops r12 false) [19] []) .ret) .skip)) (.seq (.dr (.ops r13 false) [19] []) .ret))))))))
end cmp_Compare_uint32
def cmp_Compare_uint32:AFn:=⟨2,cmp_Compare_uint32.c,[.tmp 4],false⟩
namespace slices_Clone_uint32_uint32
def r0:List AI:=[o 2 (.mov (.c .nil))]
def r1:List AI:=[m 3 0,o 4 (.isn false 3)]
def r2:List AI:=[o 2 (.mov (.c .nil))]
def r3:List AI:=[o 5 (.bslice 5 1 []),m 6 0,o 7 (.app 7 1 4 5 6),m 2 7]
def c:ACode:=(.seq (.dr (.ops r0 false) [2] []) (.seq (.seq (.dr (.ops r1 false) [3] []) (.cond 4 (.seq (.dr (.ops r2 false) [0,4] []) .ret) .skip)) (.seq (.dr (.ops r3 false) [0,4,5,6,7] []) .ret)))
end slices_Clone_uint32_uint32
def slices_Clone_uint32_uint32:AFn:=⟨1,slices_Clone_uint32_uint32.c,[.tmp 2],true⟩
namespace math_bits_Len32
def r0:List AI:=[o 2 (.mov (k 0))]
def r1:List AI:=[m 3 0,o 4 (.bin .geq 3 (.c (.int .u32 (65536))))]
def r2:List AI:=[m 5 0,o 6 (.bin .shr 5 (.c (.int .u64 (16)))),m 0 6]
def r3:List AI:=[o 2 (.mov (k 16))]
def r4:List AI:=[m 7 0,o 8 (.bin .geq 7 (.c (.int .u32 (256))))]
def r5:List AI:=[m 9 0,o 10 (.bin .shr 9 (.c (.int .u64 (8)))),m 0 10]
def r6:List AI:=[m 11 2,o 12 (.bin .add 11 (k 8)),m 2 12]
def r7:List AI:=[m 13 2,m 14 0,o 15 (.conv .u8 14),
 o 16 (.sidx (List.replicate 1 0++List.replicate 1 1++List.replicate 2 2++List.replicate 4 3++List.replicate 8 4++List.replicate 16 5++List.replicate 32 6++List.replicate 64 7++List.replicate 128 8) 15),
 o 17 (.conv .i64 16),o 18 (.bin .add 13 17),m 2 18]
def c:ACode:=(.seq (.ops r0 false) (.seq (.seq (.dr (.ops r1 false) [3] []) (.cond 4 (.seq (.dr (.ops r2 false) [2,4,5,6] []) (.ops r3 false)) .skip)) (.seq (.seq (.dr (.ops r4 false) [4,7] []) (.cond 8 (.seq (.dr (.ops r5 false) [8,9,10] []) (.dr (.ops r6 false) [11,12] [])) .skip)) (.seq (.dr (.ops r7 false) [0,8,13,14,15,16,17,18] []) .ret))))
end math_bits_Len32
def math_bits_Len32:AFn:=⟨1,math_bits_Len32.c,[.tmp 2],false⟩
namespace math_bits_LeadingZeros32
def r0:List AI:=[o 2 (.mov (k 0))]
def r1:List AI:=[m 3 0,o 4 (.call 63 [3]),o 5 (.bin .sub (k 32) 4),m 2 5]
def c:ACode:=(.seq (.dr (.ops r0 false) [2] []) (.seq (.dr (.ops r1 false) [0,3,4,5] []) .ret))
end math_bits_LeadingZeros32
def math_bits_LeadingZeros32:AFn:=⟨1,math_bits_LeadingZeros32.c,[.tmp 2],false⟩
namespace nat_cut
def r0:List AI:=[o 2 (.mov (.c .nil))]
def r1:List AI:=[m 4 0,o 5 (.len 4),m 3 5]
def r2:List AI:=[m 6 3,o 7 (.bin .gtr 6 (k 0)),m 8 7,g 9 8 true (.mov 0),g 10 8 true (.mov 3),g 11 8 true (.bin .sub 10 (k 1)),g 12 8 true (.iadr none 1 9 11),
 g 13 8 true (.ld false 1 12),g 14 8 true (.bin .eql 13 (.c (.int .u32 (0)))),o 15 (.pick 8 14 (.c (.bool false)))]
def r3:List AI:=[m 16 3,o 17 (.bin .sub 16 (k 1)),m 3 17]
def r4:List AI:=[m 18 0,m 19 3,o 20 (.slc 1 18 none (some 19)),m 2 20]
def l1:ACode:=(.seq (.seq (.dr (.ops r2 false) [6,7,8,9,10,11,12,13,14] []) (.cond 15 .skip (.exit 0))) (.block 1 (.dr (.ops r3 false) [15,16,17] [])))
def c:ACode:=(.seq (.dr (.ops r0 false) [2] []) (.seq (.dr (.ops r1 false) [4,5] []) (.seq (.block 0 (.loop l1)) (.seq (.dr (.ops r4 false) [0,3,15,18,19,20] []) .ret))))
end nat_cut
def nat_cut:AFn:=⟨1,nat_cut.c,[.tmp 2],false⟩
namespace nat_Trim
def r0:List AI:=[o 2 (.mov (.c .nil))]
def r1:List AI:=[m 3 0,o 4 (.calli 65 [3]),o 5 (.call 62 [4]),m 2 5]
def c:ACode:=(.seq (.dr (.ops r0 false) [2] []) (.seq (.dr (.ops r1 false) [0,3,4,5] []) .ret))
end nat_Trim
def nat_Trim:AFn:=⟨1,nat_Trim.c,[.tmp 2],false⟩
namespace nat_Compare
def r0:List AI:=[o 4 (.mov (k 0))]
def r1:List AI:=[m 8 0,o 9 (.calli 65 [8]),m 10 1,o 11 (.calli 65 [10]),m 5 9,m 6 11]
def r2:List AI:=[m 12 5,o 13 (.len 12),m 14 6,o 15 (.len 14),o 16 (.bin .neq 13 15)]
def r3:List AI:=[m 17 5,o 18 (.len 17),m 19 6,o 20 (.len 19),o 21 (.call 60 [18,20]),m 4 21]
def r4:List AI:=[m 22 5,o 23 (.len 22),o 24 (.bin .sub 23 (k 1)),m 7 24]
def r5:List AI:=[m 25 7,o 26 (.bin .geq 25 (k 0))]
def r7:List AI:=[m 29 5,m 30 7,o 31 (.iadr none 1 29 30),o 32 (.ld false 1 31),m 33 6,m 34 7,o 35 (.iadr none 1 33 34),o 36 (.ld false 1 35),o 37 (.bin .neq 32 36)]
def r8:List AI:=[m 38 5,m 39 7,o 40 (.iadr none 1 38 39),o 41 (.ld false 1 40),m 42 6,m 43 7,o 44 (.iadr none 1 42 43),o 45 (.ld false 1 44),o 46 (.call 61 [41,45]),
 m 4 46]
def r6:List AI:=[m 27 7,o 28 (.bin .sub 27 (k 1)),m 7 28]
def r9:List AI:=[o 4 (.mov (k 0))]
def l1:ACode:=(.seq (.seq (.dr (.ops r5 false) [25] []) (.cond 26 .skip (.exit 0))) (.seq (.block 1 (.seq (.dr (.ops r7 true) [26,29,30,31,32,33,34,35,36] []) (.cond 37 (.seq (.dr (.ops r8 true) [5,6,7,37,38,39,40,41,42,43,44,45,46] []) .ret) .skip))) (.dr (.ops r6 false) [27,28,37] [])))
def c:ACode:=(.seq (.dr (.ops r0 false) [4] []) (.seq (.dr (.ops r1 false) [0,1,8,9,10,11] []) (.seq (.seq (.dr (.ops r2 false) [12,13,14,15] []) (.cond 16 (.seq (.dr (.ops r3 false) [5,6,16,17,18,19,20,21] []) .ret) .skip)) (.seq (.seq (.dr (.ops r4 false) [16,22,23,24] []) (.block 0 (.loop l1))) (.seq (.dr (.ops r9 false) [5,6,7,26] []) .ret)))))
end nat_Compare
def nat_Compare:AFn:=⟨2,nat_Compare.c,[.tmp 4],false⟩
namespace nat_Add
def r0:List AI:=[o 4 (.mov (.c .nil))]
def r1:List AI:=[m 12 0,o 13 (.calli 65 [12]),m 14 1,o 15 (.calli 65 [14]),m 5 13,m 6 15]
def r2:List AI:=[m 16 5,o 17 (.len 16),m 18 6,o 19 (.len 18),o 20 (.bin .lss 17 19)]
def r3:List AI:=[m 21 6,m 22 5,m 5 21,m 6 22]
def r4:List AI:=[m 23 5,o 24 (.len 23),o 25 (.bin .add 24 (k 1)),o 26 (.mk 26 1 4 [(.int .u32 (0))] 25 25),m 7 26]
def r5:List AI:=[o 8 (.mov (.c (.int .u64 (0))))]
def r6:List AI:=[m 27 5,o 28 (.len 27),o 29 (.mov (k 0))]
def r7:List AI:=[o 30 (.bin .lss 29 28)]
def r8:List AI:=[m 31 29,o 32 (.iadr none 1 27 29),o 33 (.ld false 1 32),m 9 31,m 10 33]
def r9:List AI:=[m 34 10,o 35 (.conv .u64 34),m 36 8,o 37 (.bin .add 35 36),m 11 37]
def r10:List AI:=[m 38 9,m 39 6,o 40 (.len 39),o 41 (.bin .lss 38 40)]
def r11:List AI:=[m 42 11,m 43 6,m 44 9,o 45 (.iadr none 1 43 44),o 46 (.ld false 1 45),o 47 (.conv .u64 46),o 48 (.bin .add 42 47),m 11 48]
def r12:List AI:=[m 49 7,m 50 9,m 51 11,o 52 (.conv .u32 51),o 53 (.iadr none 1 49 50),n (.st 1 53 52)]
def r13:List AI:=[m 54 11,o 55 (.bin .shr 54 (.c (.int .u64 (32)))),m 8 55]
def r14:List AI:=[o 56 (.bin .add 29 (k 1)),m 29 56]
def r15:List AI:=[m 57 7,m 58 5,o 59 (.len 58),m 60 8,o 61 (.conv .u32 60),o 62 (.iadr none 1 57 59),n (.st 1 62 61)]
def r16:List AI:=[m 63 7,o 64 (.calli 65 [63]),m 4 64]
def l1:ACode:=(.seq (.ops r7 false) (.seq (.cond 30 .skip (.exit 0)) (.seq (.block 1 (.seq (.dr (.ops r8 false) [30,31,32,33] []) (.seq (.dr (.ops r9 false) [8,10,34,35,36,37] []) (.seq (.seq (.dr (.ops r10 false) [38,39,40] []) (.cond 41 (.dr (.ops r11 false) [41,42,43,44,45,46,47,48] []) .skip)) (.seq (.dr (.ops r12 false) [9,41,49,50,51,52,53] []) (.dr (.ops r13 false) [11,54,55] [])))))) (.dr (.ops r14 false) [56] []))))
def c:ACode:=(.seq (.dr (.ops r0 false) [4] []) (.seq (.dr (.ops r1 false) [0,1,12,13,14,15] []) (.seq (.seq (.dr (.ops r2 false) [16,17,18,19] []) (.cond 20 (.dr (.ops r3 false) [20,21,22] []) .skip)) (.seq (.dr (.ops r4 false) [20,23,24,25,26] []) (.seq (.ops r5 false) (.seq (.seq (.ops r6 false) (.block 0 (.loop l1))) (.seq (.dr (.ops r15 false) [5,6,8,27,28,29,30,57,58,59,60,61,62] []) (.seq (.dr (.ops r16 false) [7,63,64] []) .ret))))))))
end nat_Add
def nat_Add:AFn:=⟨2,nat_Add.c,[.tmp 4],false⟩
namespace nat_Sub
def r0:List AI:=[o 4 (.mov (.c .nil))]
def r1:List AI:=[m 12 0,m 13 1,o 14 (.call 67 [12,13]),o 15 (.bin .leq 14 (k 0))]
def r2:List AI:=[o 4 (.mov (.c .nil))]
def r3:List AI:=[m 16 0,o 17 (.calli 65 [16]),m 18 1,o 19 (.calli 65 [18]),m 5 17,m 6 19]
def r4:List AI:=[m 20 5,o 21 (.len 20),o 22 (.mk 22 1 4 [(.int .u32 (0))] 21 21),m 7 22]
def r5:List AI:=[o 8 (.mov (.c (.int .u64 (0))))]
def r6:List AI:=[m 23 5,o 24 (.len 23),o 25 (.mov (k 0))]
def r7:List AI:=[o 26 (.bin .lss 25 24)]
def r8:List AI:=[m 27 25,o 28 (.iadr none 1 23 25),o 29 (.ld false 1 28),m 9 27,m 10 29]
def r9:List AI:=[m 30 10,o 31 (.conv .u64 30),m 32 8,o 33 (.bin .sub 31 32),m 11 33]
def r10:List AI:=[m 34 9,m 35 6,o 36 (.len 35),o 37 (.bin .lss 34 36)]
def r11:List AI:=[m 38 11,m 39 6,m 40 9,o 41 (.iadr none 1 39 40),o 42 (.ld false 1 41),o 43 (.conv .u64 42),o 44 (.bin .sub 38 43),m 11 44]
def r12:List AI:=[m 45 7,m 46 9,m 47 11,o 48 (.conv .u32 47),o 49 (.iadr none 1 45 46),n (.st 1 49 48)]
def r13:List AI:=[m 50 11,o 51 (.bin .shr 50 (.c (.int .u64 (63)))),m 8 51]
def r14:List AI:=[o 52 (.bin .add 25 (k 1)),m 25 52]
def r15:List AI:=[m 53 7,o 54 (.calli 65 [53]),m 4 54]
def l1:ACode:=(.seq (.ops r7 false) (.seq (.cond 26 .skip (.exit 0)) (.seq (.block 1 (.seq (.dr (.ops r8 false) [26,27,28,29] []) (.seq (.dr (.ops r9 false) [8,10,30,31,32,33] []) (.seq (.seq (.dr (.ops r10 false) [34,35,36] []) (.cond 37 (.dr (.ops r11 false) [37,38,39,40,41,42,43,44] []) .skip)) (.seq (.dr (.ops r12 false) [9,37,45,46,47,48,49] []) (.dr (.ops r13 false) [11,50,51] [])))))) (.dr (.ops r14 false) [52] []))))
def c:ACode:=(.seq (.dr (.ops r0 false) [4] []) (.seq (.seq (.dr (.ops r1 false) [12,13,14] []) (.cond 15 (.seq (.dr (.ops r2 false) [0,1,15] []) .ret) .skip)) (.seq (.dr (.ops r3 false) [0,1,15,16,17,18,19] []) (.seq (.dr (.ops r4 false) [20,21,22] []) (.seq (.ops r5 false) (.seq (.seq (.dr (.ops r6 false) [5] []) (.block 0 (.loop l1))) (.seq (.dr (.ops r15 false) [6,7,8,23,24,25,26,53,54] []) .ret)))))))
end nat_Sub
def nat_Sub:AFn:=⟨2,nat_Sub.c,[.tmp 4],false⟩
namespace nat_Mul
def r0:List AI:=[o 4 (.mov (.c .nil))]
def r1:List AI:=[m 14 0,o 15 (.calli 65 [14]),m 16 1,o 17 (.calli 65 [16]),m 5 15,m 6 17]
def r2:List AI:=[m 18 5,o 19 (.len 18),o 20 (.bin .eql 19 (k 0)),m 21 20,g 22 21 false (.mov 6),g 23 21 false (.len 22),g 24 21 false (.bin .eql 23 (k 0)),
 o 25 (.pick 21 (.c (.bool true)) 24)]
def r3:List AI:=[o 4 (.mov (.c .nil))]
def r4:List AI:=[m 26 5,o 27 (.len 26),m 28 6,o 29 (.len 28),o 30 (.bin .add 27 29),o 31 (.mk 31 1 4 [(.int .u32 (0))] 30 30),m 7 31]
def r5:List AI:=[m 32 5,o 33 (.len 32),o 34 (.mov (k 0))]
def r6:List AI:=[o 35 (.bin .lss 34 33)]
def r7:List AI:=[m 36 34,o 37 (.iadr none 1 32 34),o 38 (.ld false 1 37),m 8 36,m 9 38]
def r8:List AI:=[m 39 9,o 40 (.bin .eql 39 (.c (.int .u32 (0))))]
def r9:List AI:=[o 10 (.mov (.c (.int .u64 (0))))]
def r10:List AI:=[m 41 6,o 42 (.len 41),o 43 (.mov (k 0))]
def r11:List AI:=[o 44 (.bin .lss 43 42)]
def r12:List AI:=[m 45 43,o 46 (.iadr none 1 41 43),o 47 (.ld false 1 46),m 11 45,m 12 47]
def r13:List AI:=[m 48 9,o 49 (.conv .u64 48),m 50 12,o 51 (.conv .u64 50),o 52 (.bin .mul 49 51),m 53 7,m 54 8,m 55 11,o 56 (.bin .add 54 55),o 57 (.iadr none 1 53 56),
 o 58 (.ld false 1 57),o 59 (.conv .u64 58),o 60 (.bin .add 52 59),m 61 10,o 62 (.bin .add 60 61),m 13 62]
def r14:List AI:=[m 63 7,m 64 8,m 65 11,o 66 (.bin .add 64 65),m 67 13,o 68 (.conv .u32 67),o 69 (.iadr none 1 63 66),n (.st 1 69 68)]
def r15:List AI:=[m 70 13,o 71 (.bin .shr 70 (.c (.int .u64 (32)))),m 10 71]
def r16:List AI:=[o 72 (.bin .add 43 (k 1)),m 43 72]
def r17:List AI:=[m 73 7,m 74 8,m 75 6,o 76 (.len 75),o 77 (.bin .add 74 76),m 78 10,o 79 (.conv .u32 78),o 80 (.iadr none 1 73 77),n (.st 1 80 79)]
def r18:List AI:=[o 81 (.bin .add 34 (k 1)),m 34 81]
def r19:List AI:=[m 82 7,o 83 (.calli 65 [82]),m 4 83]
def l2:ACode:=(.seq (.ops r11 false) (.seq (.cond 44 .skip (.exit 2)) (.seq (.block 3 (.seq (.dr (.ops r12 false) [44,45,46,47] []) (.seq (.dr (.ops r13 false) [10,12,48,49,50,51,52,53,54,55,56,57,58,59,60,61,62] []) (.seq (.dr (.ops r14 false) [11,63,64,65,66,67,68,69] []) (.dr (.ops r15 false) [13,70,71] []))))) (.dr (.ops r16 false) [72] []))))
def l1:ACode:=(.seq (.ops r6 false) (.seq (.cond 35 .skip (.exit 0)) (.seq (.block 1 (.seq (.dr (.ops r7 false) [35,36,37,38] []) (.seq (.seq (.dr (.ops r8 false) [39] []) (.cond 40 (.exit 1) .skip)) (.seq (.dr (.ops r9 false) [40] []) (.seq (.seq (.ops r10 false) (.block 2 (.loop l2))) (.dr (.ops r17 false) [8,9,10,41,42,43,44,73,74,75,76,77,78,79,80] [])))))) (.dr (.ops r18 false) [8,9,40,81] []))))
def c:ACode:=(.seq (.dr (.ops r0 false) [4] []) (.seq (.dr (.ops r1 false) [0,1,14,15,16,17] []) (.seq (.seq (.dr (.ops r2 false) [18,19,20,21,22,23,24] []) (.cond 25 (.seq (.dr (.ops r3 false) [5,6,25] []) .ret) .skip)) (.seq (.dr (.ops r4 false) [25,26,27,28,29,30,31] []) (.seq (.seq (.dr (.ops r5 false) [5] []) (.block 0 (.loop l1))) (.seq (.dr (.ops r19 false) [6,7,32,33,34,35,82,83] []) .ret))))))
end nat_Mul
def nat_Mul:AFn:=⟨2,nat_Mul.c,[.tmp 4],false⟩
namespace nat_lift
def r0:List AI:=[o 6 (.mov (.c .nil))]
def r1:List AI:=[m 11 2,o 12 (.mk 71012 1 4 [(.int .u32 (0))] 11 11),m 7 12]
def r2:List AI:=[o 8 (.mov (.c (.int .u32 (0))))]
def r3:List AI:=[m 13 0,o 14 (.len 13),o 15 (.mov (k 0))]
def r4:List AI:=[o 16 (.bin .lss 15 14)]
def r5:List AI:=[m 17 15,o 18 (.iadr none 1 13 15),o 19 (.ld false 1 18),m 9 17,m 10 19]
def r6:List AI:=[m 20 7,m 21 9,m 22 10,m 23 1,o 24 (.bin .shl 22 23),m 25 8,o 26 (.bin .or 24 25),o 27 (.iadr none 1 20 21),n (.st 1 27 26)]
def r7:List AI:=[m 28 10,o 29 (.conv .u64 28),m 30 1,o 31 (.bin .shl 29 30),o 32 (.bin .shr 31 (.c (.int .u64 (32)))),o 33 (.conv .u32 32),m 8 33]
def r8:List AI:=[o 34 (.bin .add 15 (k 1)),m 15 34]
def r9:List AI:=[m 35 2,m 36 0,o 37 (.len 36),o 38 (.bin .gtr 35 37)]
def r10:List AI:=[m 39 7,m 40 0,o 41 (.len 40),m 42 8,o 43 (.iadr none 1 39 41),n (.st 1 43 42)]
def r11:List AI:=[m 44 7,m 6 44]
def l1:ACode:=(.seq (.ops r4 false) (.seq (.cond 16 .skip (.exit 0)) (.seq (.block 1 (.seq (.dr (.ops r5 false) [16,17,18,19] []) (.seq (.dr (.ops r6 false) [8,9,20,21,22,23,24,25,26,27] []) (.dr (.ops r7 false) [10,28,29,30,31,32,33] [])))) (.dr (.ops r8 false) [34] []))))
def c:ACode:=(.seq (.dr (.ops r0 false) [6] []) (.seq (.dr (.ops r1 false) [11,12] []) (.seq (.ops r2 false) (.seq (.seq (.ops r3 false) (.block 0 (.loop l1))) (.seq (.seq (.dr (.ops r9 false) [1,2,13,14,15,16,35,36,37] []) (.cond 38 (.dr (.ops r10 false) [0,8,38,39,40,41,42,43] []) .skip)) (.seq (.dr (.ops r11 false) [0,7,8,38,44] []) .ret))))))
end nat_lift
def nat_lift:AFn:=⟨3,nat_lift.c,[.tmp 6],false⟩
namespace nat_lower
def r0:List AI:=[o 4 (.mov (.c .nil))]
def r1:List AI:=[m 8 0,o 9 (.len 8),o 10 (.mk 10 1 4 [(.int .u32 (0))] 9 9),m 5 10]
def r2:List AI:=[o 6 (.mov (.c (.int .u32 (0))))]
def r3:List AI:=[m 11 0,o 12 (.len 11),o 13 (.bin .sub 12 (k 1)),m 7 13]
def r4:List AI:=[m 14 7,o 15 (.bin .geq 14 (k 0))]
def r6:List AI:=[m 18 5,m 19 7,m 20 0,m 21 7,o 22 (.iadr none 1 20 21),o 23 (.ld false 1 22),m 24 1,o 25 (.bin .shr 23 24),m 26 6,o 27 (.bin .or 25 26),
 o 28 (.iadr none 1 18 19),n (.st 1 28 27)]
def r7:List AI:=[m 29 0,m 30 7,o 31 (.iadr none 1 29 30),o 32 (.ld false 1 31),o 33 (.conv .u64 32),m 34 1,o 35 (.bin .sub (.c (.int .u64 (32))) 34),
 o 36 (.bin .shl 33 35),o 37 (.conv .u32 36),m 6 37]
def r5:List AI:=[m 16 7,o 17 (.bin .sub 16 (k 1)),m 7 17]
def r8:List AI:=[m 38 5,m 4 38]
def l1:ACode:=(.seq (.seq (.dr (.ops r4 false) [14] []) (.cond 15 .skip (.exit 0))) (.seq (.block 1 (.seq (.dr (.ops r6 false) [6,15,18,19,20,21,22,23,24,25,26,27,28] []) (.dr (.ops r7 false) [29,30,31,32,33,34,35,36,37] []))) (.dr (.ops r5 false) [16,17] [])))
def c:ACode:=(.seq (.dr (.ops r0 false) [4] []) (.seq (.dr (.ops r1 false) [8,9,10] []) (.seq (.ops r2 false) (.seq (.seq (.dr (.ops r3 false) [11,12,13] []) (.block 0 (.loop l1))) (.seq (.dr (.ops r8 false) [0,1,5,6,7,15,38] []) .ret)))))
end nat_lower
def nat_lower:AFn:=⟨2,nat_lower.c,[.tmp 4],false⟩
namespace nat_digit
def r0:List AI:=[o 4 (.mov (.c (.int .u32 (0))))]
def r1:List AI:=[m 19 1,o 20 (.len 19),m 5 20]
def r2:List AI:=[m 21 0,m 22 5,o 23 (.iadr none 1 21 22),o 24 (.ld false 1 23),o 25 (.conv .u64 24),o 26 (.bin .shl 25 (.c (.int .u64 (32)))),m 27 0,m 28 5,
 o 29 (.bin .sub 28 (k 1)),o 30 (.iadr none 1 27 29),o 31 (.ld false 1 30),o 32 (.conv .u64 31),o 33 (.bin .or 26 32),m 6 33]
def r3:List AI:=[m 34 6,m 35 1,m 36 5,o 37 (.bin .sub 36 (k 1)),o 38 (.iadr none 1 35 37),o 39 (.ld false 1 38),o 40 (.conv .u64 39),o 41 (.bin .quo 34 40),m 42 6,
 m 43 1,m 44 5,o 45 (.bin .sub 44 (k 1)),o 46 (.iadr none 1 43 45),o 47 (.ld false 1 46),o 48 (.conv .u64 47),o 49 (.bin .rem 42 48),m 7 41,m 8 49]
def r4:List AI:=[m 50 7,o 51 (.bin .geq 50 (.c (.int .u64 (4294967296)))),m 52 51,g 53 52 false (.mov 7),g 54 52 false (.mov 1),g 55 52 false (.mov 5),
 g 56 52 false (.bin .sub 55 (k 2)),g 57 52 false (.iadr none 1 54 56),g 58 52 false (.ld false 1 57),g 59 52 false (.conv .u64 58),
 g 60 52 false (.bin .mul 53 59),g 61 52 false (.mov 8),g 62 52 false (.bin .shl 61 (.c (.int .u64 (32)))),g 63 52 false (.mov 0),g 64 52 false (.mov 5),
 g 65 52 false (.bin .sub 64 (k 2)),g 66 52 false (.iadr none 1 63 65),g 67 52 false (.ld false 1 66),g 68 52 false (.conv .u64 67),
 g 69 52 false (.bin .or 62 68),g 70 52 false (.bin .gtr 60 69),o 71 (.pick 52 (.c (.bool true)) 70)]
def r5:List AI:=[m 72 7,o 73 (.bin .sub 72 (.c (.int .u64 (1)))),m 7 73]
def r6:List AI:=[m 74 8,m 75 1,m 76 5,o 77 (.bin .sub 76 (k 1)),o 78 (.iadr none 1 75 77),o 79 (.ld false 1 78),o 80 (.conv .u64 79),o 81 (.bin .add 74 80),m 8 81]
def r7:List AI:=[m 82 8,o 83 (.bin .geq 82 (.c (.int .u64 (4294967296))))]
def r8:List AI:=[o 9 (.mov (.c (.int .u64 (0)))),o 10 (.mov (.c (.int .u64 (0))))]
def r9:List AI:=[m 84 1,o 85 (.len 84),o 86 (.mov (k 0))]
def r10:List AI:=[o 87 (.bin .lss 86 85)]
def r11:List AI:=[m 88 86,o 89 (.iadr none 1 84 86),o 90 (.ld false 1 89),m 11 88,m 12 90]
def r12:List AI:=[m 91 7,m 92 12,o 93 (.conv .u64 92),o 94 (.bin .mul 91 93),m 95 9,o 96 (.bin .add 94 95),m 13 96]
def r13:List AI:=[m 97 13,o 98 (.bin .shr 97 (.c (.int .u64 (32)))),m 9 98]
def r14:List AI:=[m 99 0,m 100 11,o 101 (.iadr none 1 99 100),o 102 (.ld false 1 101),o 103 (.conv .u64 102),m 104 13,o 105 (.conv .u32 104),o 106 (.conv .u64 105),
 o 107 (.bin .sub 103 106),m 108 10,o 109 (.bin .sub 107 108),m 14 109]
def r15:List AI:=[m 110 0,m 111 11,m 112 14,o 113 (.conv .u32 112),o 114 (.iadr none 1 110 111),n (.st 1 114 113)]
def r16:List AI:=[m 115 14,o 116 (.bin .shr 115 (.c (.int .u64 (63)))),m 10 116]
def r17:List AI:=[o 117 (.bin .add 86 (k 1)),m 86 117]
def r18:List AI:=[m 118 0,m 119 5,o 120 (.iadr none 1 118 119),o 121 (.ld false 1 120),o 122 (.conv .u64 121),m 123 9,o 124 (.bin .sub 122 123),m 125 10,
 o 126 (.bin .sub 124 125),m 15 126]
def r19:List AI:=[m 127 0,m 128 5,m 129 15,o 130 (.conv .u32 129),o 131 (.iadr none 1 127 128),n (.st 1 131 130)]
def r20:List AI:=[m 132 15,o 133 (.bin .shr 132 (.c (.int .u64 (63)))),o 134 (.bin .eql 133 (.c (.int .u64 (0))))]
def r21:List AI:=[m 135 7,o 136 (.conv .u32 135),m 4 136]
def r22:List AI:=[o 9 (.mov (.c (.int .u64 (0))))]
def r23:List AI:=[m 137 1,o 138 (.len 137),o 139 (.mov (k 0))]
def r24:List AI:=[o 140 (.bin .lss 139 138)]
def r25:List AI:=[m 141 139,o 142 (.iadr none 1 137 139),o 143 (.ld false 1 142),m 16 141,m 17 143]
def r26:List AI:=[m 144 0,m 145 16,o 146 (.iadr none 1 144 145),o 147 (.ld false 1 146),o 148 (.conv .u64 147),m 149 17,o 150 (.conv .u64 149),o 151 (.bin .add 148 150),
 m 152 9,o 153 (.bin .add 151 152),m 18 153]
def r27:List AI:=[m 154 0,m 155 16,m 156 18,o 157 (.conv .u32 156),o 158 (.iadr none 1 154 155),n (.st 1 158 157)]
def r28:List AI:=[m 159 18,o 160 (.bin .shr 159 (.c (.int .u64 (32)))),m 9 160]
def r29:List AI:=[o 161 (.bin .add 139 (k 1)),m 139 161]
def r30:List AI:=[m 162 0,m 163 5,o 164 (.iadr none 1 162 163),o 165 (.ld false 1 164),m 166 9,o 167 (.conv .u32 166),o 168 (.bin .add 165 167),
 o 169 (.iadr none 1 162 163),n (.st 1 169 168)]
def r31:List AI:=[m 170 7,o 171 (.bin .sub 170 (.c (.int .u64 (1)))),o 172 (.conv .u32 171),m 4 172]
def l1:ACode:=(.seq (.seq (.dr (.ops r4 true) [50,51,52,53,54,55,56,57,58,59,60,61,62,63,64,65,66,67,68,69,70,83] []) (.cond 71 .skip (.exit 0))) (.block 1 (.seq (.dr (.ops r5 false) [71,72,73] []) (.seq (.dr (.ops r6 false) [74,75,76,77,78,79,80,81] []) (.seq (.dr (.ops r7 false) [82] []) (.cond 83 (.exit 0) .skip))))))
def l2:ACode:=(.seq (.ops r10 false) (.seq (.cond 87 .skip (.exit 2)) (.seq (.block 3 (.seq (.dr (.ops r11 false) [87,88,89,90] []) (.seq (.dr (.ops r12 false) [9,12,91,92,93,94,95,96] []) (.seq (.dr (.ops r13 false) [97,98] []) (.seq (.dr (.ops r14 false) [10,13,99,100,101,102,103,104,105,106,107,108,109] []) (.seq (.dr (.ops r15 false) [11,110,111,112,113,114] []) (.dr (.ops r16 false) [14,115,116] []))))))) (.dr (.ops r17 false) [117] []))))
def l3:ACode:=(.seq (.ops r24 false) (.seq (.cond 140 .skip (.exit 4)) (.seq (.block 5 (.seq (.dr (.ops r25 false) [140,141,142,143] []) (.seq (.dr (.ops r26 false) [9,17,144,145,146,147,148,149,150,151,152,153] []) (.seq (.dr (.ops r27 false) [16,154,155,156,157,158] []) (.dr (.ops r28 false) [18,159,160] []))))) (.dr (.ops r29 false) [161] []))))
def c:ACode:=(.seq (.dr (.ops r0 false) [4] []) (.seq (.dr (.ops r1 false) [19,20] []) (.seq (.dr (.ops r2 true) [21,22,23,24,25,26,27,28,29,30,31,32,33] []) (.seq (.dr (.ops r3 true) [6,34,35,36,37,38,39,40,41,42,43,44,45,46,47,48,49] []) (.seq (.block 0 (.loop l1)) (.seq (.dr (.ops r8 false) [8,71,83] []) (.seq (.seq (.ops r9 false) (.block 2 (.loop l2))) (.seq (.dr (.ops r18 false) [9,10,84,85,86,87,118,119,120,121,122,123,124,125,126] []) (.seq (.dr (.ops r19 false) [127,128,129,130,131] []) (.seq (.seq (.dr (.ops r20 false) [15,132,133] []) (.cond 134 (.seq (.dr (.ops r21 false) [0,1,5,7,134,135,136] []) .ret) .skip)) (.seq (.dr (.ops r22 false) [134] []) (.seq (.seq (.dr (.ops r23 false) [1] []) (.block 4 (.loop l3))) (.seq (.dr (.ops r30 false) [0,5,9,137,138,139,140,162,163,164,165,166,167,168,169] []) (.seq (.dr (.ops r31 false) [7,170,171,172] []) .ret))))))))))))))
end nat_digit
def nat_digit:AFn:=⟨2,nat_digit.c,[.tmp 4],false⟩
namespace nat_divide
def r0:List AI:=[o 4 (.mov (.c .nil)),o 5 (.mov (.c .nil))]
def r1:List AI:=[m 15 0,m 16 1,o 17 (.call 67 [15,16]),o 18 (.bin .lss 17 (k 0))]
def r2:List AI:=[m 19 0,o 20 (.call 62 [19]),o 4 (.mov (.c .nil)),m 5 20]
def r3:List AI:=[m 21 1,o 22 (.len 21),m 6 22]
def r4:List AI:=[m 23 0,o 24 (.len 23),m 25 6,o 26 (.bin .sub 24 25),o 27 (.bin .add 26 (k 1)),o 28 (.mk 28 1 4 [(.int .u32 (0))] 27 27),m 7 28]
def r5:List AI:=[m 29 6,o 30 (.bin .eql 29 (k 1))]
def r6:List AI:=[o 8 (.mov (.c (.int .u64 (0))))]
def r7:List AI:=[m 31 0,o 32 (.len 31),o 33 (.bin .sub 32 (k 1)),m 9 33]
def r8:List AI:=[m 34 9,o 35 (.bin .geq 34 (k 0))]
def r10:List AI:=[m 38 8,o 39 (.bin .shl 38 (.c (.int .u64 (32)))),m 40 0,m 41 9,o 42 (.iadr none 1 40 41),o 43 (.ld false 1 42),o 44 (.conv .u64 43),
 o 45 (.bin .or 39 44),m 10 45]
def r11:List AI:=[m 46 7,m 47 9,m 48 10,m 49 1,o 50 (.iadr none 1 49 (k 0)),o 51 (.ld false 1 50),o 52 (.conv .u64 51),o 53 (.bin .quo 48 52),o 54 (.conv .u32 53),
 o 55 (.iadr none 1 46 47),n (.st 1 55 54)]
def r12:List AI:=[m 56 10,m 57 1,o 58 (.iadr none 1 57 (k 0)),o 59 (.ld false 1 58),o 60 (.conv .u64 59),o 61 (.bin .rem 56 60),m 8 61]
def r9:List AI:=[m 36 9,o 37 (.bin .sub 36 (k 1)),m 9 37]
def r13:List AI:=[m 62 7,o 63 (.calli 65 [62]),m 64 8,o 65 (.conv .u32 64),o 66 (.bslice 66 1 [65]),o 67 (.calli 65 [66]),m 4 63,m 5 67]
def r14:List AI:=[m 68 1,m 69 6,o 70 (.bin .sub 69 (k 1)),o 71 (.iadr none 1 68 70),o 72 (.ld false 1 71),o 73 (.call 64 [72]),o 74 (.conv .u64 73),m 11 74]
def r15:List AI:=[m 75 0,m 76 11,m 77 0,o 78 (.len 77),o 79 (.bin .add 78 (k 1)),o 80 (.calli 71 [75,76,79]),m 81 1,m 82 11,m 83 6,o 84 (.call 71 [81,82,83]),
 m 12 80,m 13 84]
def r16:List AI:=[m 85 0,o 86 (.len 85),m 87 6,o 88 (.bin .sub 86 87),m 14 88]
def r17:List AI:=[m 89 14,o 90 (.bin .geq 89 (k 0))]
def r19:List AI:=[m 93 7,m 94 14,m 95 12,m 96 14,m 97 14,m 98 6,o 99 (.bin .add 97 98),o 100 (.bin .add 99 (k 1)),o 101 (.slc 1 95 (some 96) (some 100)),m 102 13,
 o 103 (.calli 73 [101,102]),o 104 (.iadr none 1 93 94),n (.st 1 104 103)]
def r18:List AI:=[m 91 14,o 92 (.bin .sub 91 (k 1)),m 14 92]
def r20:List AI:=[m 105 7,o 106 (.calli 65 [105]),m 107 12,m 108 6,o 109 (.slc 1 107 none (some 108)),m 110 11,o 111 (.call 72 [109,110]),o 112 (.calli 65 [111]),
 m 4 106,m 5 112]
def l1:ACode:=(.seq (.seq (.dr (.ops r8 false) [34] []) (.cond 35 .skip (.exit 0))) (.seq (.block 1 (.seq (.dr (.ops r10 false) [8,35,38,39,40,41,42,43,44,45] []) (.seq (.dr (.ops r11 false) [46,47,48,49,50,51,52,53,54,55] []) (.dr (.ops r12 false) [10,56,57,58,59,60,61] [])))) (.dr (.ops r9 false) [36,37] [])))
def l2:ACode:=(.seq (.seq (.dr (.ops r17 false) [89] []) (.cond 90 .skip (.exit 2))) (.seq (.block 3 (.dr (.ops r19 false) [90,93,94,95,96,97,98,99,100,101,102,103,104] [])) (.dr (.ops r18 false) [91,92] [])))
def c:ACode:=(.seq (.dr (.ops r0 false) [4,5] []) (.seq (.seq (.dr (.ops r1 false) [15,16,17] []) (.cond 18 (.seq (.dr (.ops r2 false) [0,1,18,19,20] []) .ret) .skip)) (.seq (.dr (.ops r3 false) [18,21,22] []) (.seq (.dr (.ops r4 false) [23,24,25,26,27,28] []) (.seq (.seq (.dr (.ops r5 false) [29] []) (.cond 30 (.seq (.dr (.ops r6 false) [6,30] []) (.seq (.seq (.dr (.ops r7 false) [31,32,33] []) (.block 0 (.loop l1))) (.seq (.dr (.ops r13 false) [0,1,7,8,9,35,62,63,64,65,66,67] []) .ret))) .skip)) (.seq (.dr (.ops r14 false) [30,68,69,70,71,72,73,74] []) (.seq (.dr (.ops r15 false) [1,75,76,77,78,79,80,81,82,83,84] []) (.seq (.seq (.dr (.ops r16 false) [0,85,86,87,88] []) (.block 2 (.loop l2))) (.seq (.dr (.ops r20 true) [6,7,11,12,13,14,90,105,106,107,108,109,110,111,112] []) .ret)))))))))
end nat_divide
def nat_divide:AFn:=⟨2,nat_divide.c,[.tmp 4,.tmp 5],false⟩
namespace nat_DivMod
def r0:List AI:=[o 4 (.mov (.c .nil)),o 5 (.mov (.c .nil)),o 6 (.mov (k 0))]
def r1:List AI:=[m 10 1,o 11 (.calli 65 [10]),m 7 11]
def r2:List AI:=[m 12 7,o 13 (.len 12),o 14 (.bin .eql 13 (k 0))]
def r3:List AI:=[o 4 (.mov (.c .nil)),o 5 (.mov (.c .nil)),o 6 (.mov (k 3))]
def r4:List AI:=[m 16 0,o 17 (.calli 65 [16]),m 18 7,o 19 (.call 74 [17,18]),m 15 19,o 20 (.ext 15 0),o 21 (.ext 15 1),m 8 20,m 9 21]
def r5:List AI:=[m 22 8,m 23 9,m 4 22,m 5 23,o 6 (.mov (k 0))]
def c:ACode:=(.seq (.dr (.ops r0 false) [4,5,6] []) (.seq (.dr (.ops r1 false) [1,10,11] []) (.seq (.seq (.dr (.ops r2 false) [12,13] []) (.cond 14 (.seq (.dr (.ops r3 false) [0,7,14] []) .ret) .skip)) (.seq (.dr (.ops r4 false) [0,7,14,15,16,17,18,19,20,21] []) (.seq (.dr (.ops r5 false) [8,9,22,23] []) .ret)))))
end nat_DivMod
def nat_DivMod:AFn:=⟨2,nat_DivMod.c,[.tmp 4,.tmp 5,.tmp 6],false⟩
namespace nat_small
def r0:List AI:=[o 2 (.mov (.c (.int .u64 (0))))]
def r1:List AI:=[o 3 (.mov (.c (.int .u64 (0))))]
def r2:List AI:=[m 6 0,o 7 (.len 6),o 8 (.mov (k 0))]
def r3:List AI:=[o 9 (.bin .lss 8 7)]
def r4:List AI:=[m 10 8,o 11 (.iadr none 1 6 8),o 12 (.ld false 1 11),m 4 10,m 5 12]
def r5:List AI:=[m 13 3,m 14 5,o 15 (.conv .u64 14),m 16 4,o 17 (.bin .mul (k 32) 16),o 18 (.bin .shl 15 17),o 19 (.bin .or 13 18),m 3 19]
def r6:List AI:=[o 20 (.bin .add 8 (k 1)),m 8 20]
def r7:List AI:=[m 21 3,m 2 21]
def l1:ACode:=(.seq (.ops r3 false) (.seq (.cond 9 .skip (.exit 0)) (.seq (.block 1 (.seq (.dr (.ops r4 false) [9,10,11,12] []) (.dr (.ops r5 false) [4,5,13,14,15,16,17,18,19] []))) (.dr (.ops r6 false) [20] []))))
def c:ACode:=(.seq (.dr (.ops r0 false) [2] []) (.seq (.ops r1 false) (.seq (.seq (.dr (.ops r2 false) [0] []) (.block 0 (.loop l1))) (.seq (.dr (.ops r7 false) [3,6,7,8,9,21] []) .ret))))
end nat_small
def nat_small:AFn:=⟨1,nat_small.c,[.tmp 2],false⟩
namespace nat_leading_1
def r0:List AI:=[o 3 (.mov (.c (.int .u64 (0))))]
def r1:List AI:=[m 4 0,o 5 (.ld false 1 1),o 6 (.len 5),o 7 (.bin .lss 4 6)]
def r2:List AI:=[o 8 (.ld false 1 1),m 9 0,o 10 (.iadr none 1 8 9),o 11 (.ld false 1 10),o 12 (.conv .u64 11),m 3 12]
def r3:List AI:=[o 3 (.mov (.c (.int .u64 (0))))]
def c:ACode:=(.seq (.dr (.ops r0 false) [3] []) (.seq (.seq (.dr (.ops r1 false) [4,5,6] []) (.cond 7 (.seq (.dr (.ops r2 false) [0,1,7,8,9,10,11,12] []) .ret) .skip)) (.seq (.dr (.ops r3 false) [0,1,7] []) .ret)))
end nat_leading_1
def nat_leading_1:AFn:=⟨2,nat_leading_1.c,[.tmp 3],false⟩
namespace nat_leading
def r0:List AI:=[o 3 (.box 3 0),o 6 (.mov (k 0))]
def r1:List AI:=[o 9 (.mkf false 77 [3]),m 7 9]
def r2:List AI:=[m 10 7,m 11 1,o 12 (.bin .sub 11 (k 1)),o 13 (.callv 10 [12]),o 14 (.bin .shl 13 (.c (.int .u64 (32)))),m 15 7,m 16 1,o 17 (.bin .sub 16 (k 2)),
 o 18 (.callv 15 [17]),o 19 (.bin .or 14 18),m 20 2,o 21 (.bin .shl 19 20),m 8 21]
def r3:List AI:=[m 22 8,m 23 7,m 24 1,o 25 (.bin .sub 24 (k 3)),o 26 (.callv 23 [25]),m 27 2,o 28 (.bin .shl 26 27),o 29 (.bin .shr 28 (.c (.int .u64 (32)))),
 o 30 (.bin .or 22 29),m 8 30]
def r4:List AI:=[m 31 8,o 32 (.bin .shr 31 (.c (.int .u64 (2)))),o 33 (.conv .i64 32),m 6 33]
def c:ACode:=(.seq (.dr (.ops r0 false) [0,6] []) (.seq (.dr (.ops r1 false) [3,9] []) (.seq (.dr (.ops r2 false) [10,11,12,13,14,15,16,17,18,19,20,21] []) (.seq (.dr (.ops r3 false) [1,2,7,22,23,24,25,26,27,28,29,30] []) (.seq (.dr (.ops r4 false) [8,31,32,33] []) .ret)))))
end nat_leading
def nat_leading:AFn:=⟨3,nat_leading.c,[.tmp 6],false⟩
namespace nat_cofactors
def r0:List AI:=[o 4 (.mov (k 0)),o 5 (.mov (k 0)),o 6 (.mov (k 0)),o 7 (.mov (k 0))]
def r1:List AI:=[o 4 (.mov (k 1)),o 7 (.mov (k 1))]
def r2:List AI:=[m 11 1,m 12 6,o 13 (.bin .add 11 12),o 14 (.bin .neq 13 (k 0)),m 15 14,g 16 15 true (.mov 1),g 17 15 true (.mov 7),g 18 15 true (.bin .add 16 17),
 g 19 15 true (.bin .neq 18 (k 0)),o 20 (.pick 15 19 (.c (.bool false)))]
def r3:List AI:=[m 21 0,m 22 4,o 23 (.bin .add 21 22),m 24 1,m 25 6,o 26 (.bin .add 24 25),o 27 (.bin .quo 23 26),m 8 27]
def r4:List AI:=[m 28 8,m 29 0,m 30 5,o 31 (.bin .add 29 30),m 32 1,m 33 7,o 34 (.bin .add 32 33),o 35 (.bin .quo 31 34),o 36 (.bin .neq 28 35),m 37 36,
 g 38 37 false (.mov 8),g 39 37 false (.bin .gtr 38 (k 2147483647)),o 40 (.pick 37 (.c (.bool true)) 39)]
def r5:List AI:=[m 41 4,m 42 8,m 43 6,o 44 (.bin .mul 42 43),o 45 (.bin .sub 41 44),m 46 5,m 47 8,m 48 7,o 49 (.bin .mul 47 48),o 50 (.bin .sub 46 49),m 9 45,m 10 50]
def r6:List AI:=[m 51 9,m 52 9,o 53 (.un .neg 52),m 54 10,m 55 10,o 56 (.un .neg 55),o 57 (.mm true [51,53,54,56]),o 58 (.bin .gtr 57 (k 2147483647))]
def r7:List AI:=[m 59 6,m 60 7,m 61 9,m 62 10,m 4 59,m 5 60,m 6 61,m 7 62]
def r8:List AI:=[m 63 1,m 64 0,m 65 8,m 66 1,o 67 (.bin .mul 65 66),o 68 (.bin .sub 64 67),m 0 63,m 1 68]
def r9:List AI:=[m 69 4,m 70 5,m 71 6,m 72 7,m 4 69,m 5 70,m 6 71,m 7 72]
def l1:ACode:=(.seq (.seq (.dr (.ops r2 false) [11,12,13,14,15,16,17,18,19] []) (.cond 20 .skip (.exit 0))) (.block 1 (.seq (.dr (.ops r3 false) [20,21,22,23,24,25,26,27] []) (.seq (.seq (.dr (.ops r4 false) [28,29,30,31,32,33,34,35,36,37,38,39] []) (.cond 40 (.exit 0) .skip)) (.seq (.dr (.ops r5 false) [40,41,42,43,44,45,46,47,48,49,50] []) (.seq (.seq (.dr (.ops r6 false) [51,52,53,54,55,56,57] []) (.cond 58 (.exit 0) .skip)) (.seq (.dr (.ops r7 false) [9,10,58,59,60,61,62] []) (.dr (.ops r8 false) [8,63,64,65,66,67,68] []))))))))
def c:ACode:=(.seq (.dr (.ops r0 false) [4,7] []) (.seq (.ops r1 false) (.seq (.block 0 (.loop l1)) (.seq (.dr (.ops r9 false) [0,1,8,9,10,20,40,58,69,70,71,72] []) .ret))))
end nat_cofactors
def nat_cofactors:AFn:=⟨2,nat_cofactors.c,[.tmp 4,.tmp 5,.tmp 6,.tmp 7],false⟩
namespace nat_combine
def r0:List AI:=[o 8 (.mov (.c .nil))]
def r1:List AI:=[m 14 0,o 15 (.len 14),o 16 (.mk 16 1 4 [(.int .u32 (0))] 15 15),m 9 16]
def r2:List AI:=[o 10 (.mov (k 0))]
def r3:List AI:=[m 17 0,o 18 (.len 17),o 19 (.mov (k 0))]
def r4:List AI:=[o 20 (.bin .lss 19 18)]
def r5:List AI:=[m 21 19,o 22 (.iadr none 1 17 19),o 23 (.ld false 1 22),m 11 21,m 12 23]
def r6:List AI:=[m 24 2,m 25 12,o 26 (.conv .i64 25),o 27 (.bin .mul 24 26),m 28 10,o 29 (.bin .add 27 28),m 13 29]
def r7:List AI:=[m 30 11,m 31 1,o 32 (.len 31),o 33 (.bin .lss 30 32)]
def r8:List AI:=[m 34 13,m 35 3,m 36 1,m 37 11,o 38 (.iadr none 1 36 37),o 39 (.ld false 1 38),o 40 (.conv .i64 39),o 41 (.bin .mul 35 40),o 42 (.bin .add 34 41),
 m 13 42]
def r9:List AI:=[m 43 9,m 44 11,m 45 13,o 46 (.conv .u32 45),o 47 (.iadr none 1 43 44),n (.st 1 47 46)]
def r10:List AI:=[m 48 13,o 49 (.bin .shr 48 (.c (.int .u64 (32)))),m 10 49]
def r11:List AI:=[o 50 (.bin .add 19 (k 1)),m 19 50]
def r12:List AI:=[m 51 9,o 52 (.calli 65 [51]),m 8 52]
def l1:ACode:=(.seq (.ops r4 false) (.seq (.cond 20 .skip (.exit 0)) (.seq (.block 1 (.seq (.dr (.ops r5 false) [20,21,22,23] []) (.seq (.dr (.ops r6 false) [10,12,24,25,26,27,28,29] []) (.seq (.seq (.dr (.ops r7 false) [30,31,32] []) (.cond 33 (.dr (.ops r8 false) [33,34,35,36,37,38,39,40,41,42] []) .skip)) (.seq (.dr (.ops r9 false) [11,33,43,44,45,46,47] []) (.dr (.ops r10 false) [13,48,49] [])))))) (.dr (.ops r11 false) [50] []))))
def c:ACode:=(.seq (.dr (.ops r0 false) [8] []) (.seq (.dr (.ops r1 false) [14,15,16] []) (.seq (.ops r2 false) (.seq (.seq (.dr (.ops r3 false) [0] []) (.block 0 (.loop l1))) (.seq (.dr (.ops r12 false) [1,2,3,9,10,17,18,19,20,51,52] []) .ret)))))
end nat_combine
def nat_combine:AFn:=⟨4,nat_combine.c,[.tmp 8],false⟩
namespace nat_shorten
def r0:List AI:=[o 4 (.mov (.c .nil)),o 5 (.mov (.c .nil))]
def r1:List AI:=[m 14 0,o 15 (.len 14),m 6 15]
def r2:List AI:=[m 16 0,m 17 6,o 18 (.bin .sub 17 (k 1)),o 19 (.iadr none 1 16 18),o 20 (.ld false 1 19),o 21 (.call 64 [20]),o 22 (.conv .u64 21),m 7 22]
def r3:List AI:=[m 24 0,m 25 6,m 26 7,o 27 (.call 78 [24,25,26]),m 28 1,m 29 6,m 30 7,o 31 (.call 78 [28,29,30]),o 32 (.call 79 [27,31]),m 23 32,o 33 (.ext 23 0),
 o 34 (.ext 23 1),o 35 (.ext 23 2),o 36 (.ext 23 3),m 8 33,m 9 34,m 10 35,m 11 36]
def r4:List AI:=[m 37 9,o 38 (.bin .eql 37 (k 0))]
def r5:List AI:=[m 40 0,m 41 1,o 42 (.call 74 [40,41]),m 39 42,o 43 (.ext 39 0),o 44 (.ext 39 1),m 12 43,m 13 44]
def r6:List AI:=[m 45 1,m 46 13,m 4 45,m 5 46]
def r7:List AI:=[m 47 0,m 48 1,m 49 8,m 50 9,o 51 (.call 80 [47,48,49,50]),m 52 0,m 53 1,m 54 10,m 55 11,o 56 (.call 80 [52,53,54,55]),m 4 51,m 5 56]
def c:ACode:=(.seq (.dr (.ops r0 false) [4,5] []) (.seq (.dr (.ops r1 false) [14,15] []) (.seq (.dr (.ops r2 false) [16,17,18,19,20,21,22] []) (.seq (.dr (.ops r3 false) [6,7,23,24,25,26,27,28,29,30,31,32,33,34,35,36] []) (.seq (.seq (.dr (.ops r4 false) [37] []) (.cond 38 (.seq (.dr (.ops r5 false) [0,8,9,10,11,12,38,39,40,41,42,43,44] []) (.seq (.dr (.ops r6 false) [1,13,45,46] []) .ret)) .skip)) (.seq (.dr (.ops r7 false) [0,1,8,9,10,11,38,47,48,49,50,51,52,53,54,55,56] []) .ret))))))
end nat_shorten
def nat_shorten:AFn:=⟨2,nat_shorten.c,[.tmp 4,.tmp 5],false⟩
namespace nat_Gcd
def r0:List AI:=[o 4 (.mov (.c .nil))]
def r1:List AI:=[m 11 0,o 12 (.call 66 [11]),m 13 1,o 14 (.call 66 [13]),m 5 12,m 6 14]
def r2:List AI:=[m 15 5,m 16 6,o 17 (.call 67 [15,16]),o 18 (.bin .lss 17 (k 0))]
def r3:List AI:=[m 19 6,m 20 5,m 5 19,m 6 20]
def r4:List AI:=[m 21 6,o 22 (.len 21),o 23 (.bin .gtr 22 (k 2))]
def r5:List AI:=[m 25 5,m 26 6,o 27 (.call 81 [25,26]),m 24 27,o 28 (.ext 24 0),o 29 (.ext 24 1),m 5 28,m 6 29]
def r6:List AI:=[m 30 6,o 31 (.len 30),o 32 (.bin .eql 31 (k 0))]
def r7:List AI:=[m 33 5,m 4 33]
def r8:List AI:=[m 35 5,m 36 6,o 37 (.call 74 [35,36]),m 34 37,o 38 (.ext 34 0),o 39 (.ext 34 1),m 7 38,m 8 39]
def r9:List AI:=[m 40 6,o 41 (.call 76 [40]),m 42 8,o 43 (.call 76 [42]),m 9 41,m 10 43]
def r10:List AI:=[m 44 10,o 45 (.bin .neq 44 (.c (.int .u64 (0))))]
def r11:List AI:=[m 46 10,m 47 9,m 48 10,o 49 (.bin .rem 47 48),m 9 46,m 10 49]
def r12:List AI:=[m 50 9,o 51 (.conv .u32 50),m 52 9,o 53 (.bin .shr 52 (.c (.int .u64 (32)))),o 54 (.conv .u32 53),o 55 (.bslice 55 1 [51,54]),o 56 (.calli 65 [55]),
 m 4 56]
def l1:ACode:=(.seq (.seq (.dr (.ops r4 false) [18,21,22] []) (.cond 23 .skip (.exit 0))) (.block 1 (.dr (.ops r5 false) [23,24,25,26,27,28,29] [])))
def l2:ACode:=(.seq (.seq (.dr (.ops r10 false) [44] []) (.cond 45 .skip (.exit 2))) (.block 3 (.dr (.ops r11 true) [45,46,47,48,49] [])))
def c:ACode:=(.seq (.dr (.ops r0 false) [4] []) (.seq (.dr (.ops r1 false) [0,1,11,12,13,14] []) (.seq (.seq (.dr (.ops r2 false) [15,16,17] []) (.cond 18 (.dr (.ops r3 false) [18,19,20] []) .skip)) (.seq (.block 0 (.loop l1)) (.seq (.seq (.dr (.ops r6 false) [23,30,31] []) (.cond 32 (.seq (.dr (.ops r7 false) [5,6,32,33] []) .ret) .skip)) (.seq (.dr (.ops r8 false) [5,7,32,34,35,36,37,38,39] []) (.seq (.dr (.ops r9 false) [6,8,40,41,42,43] []) (.seq (.block 2 (.loop l2)) (.seq (.dr (.ops r12 false) [9,10,45,50,51,52,53,54,55,56] []) .ret)))))))))
end nat_Gcd
def nat_Gcd:AFn:=⟨2,nat_Gcd.c,[.tmp 4],false⟩
structure NatGLib (L:Lib):Prop where
 cmp_isNaN_int:L 58=some F.cmp_isNaN_int
 cmp_isNaN_uint32:L 59=some F.cmp_isNaN_uint32
 cmp_Compare_int:L 60=some F.cmp_Compare_int
 cmp_Compare_uint32:L 61=some F.cmp_Compare_uint32
 slices_Clone_uint32_uint32:L 62=some F.slices_Clone_uint32_uint32
 math_bits_Len32:L 63=some F.math_bits_Len32
 math_bits_LeadingZeros32:L 64=some F.math_bits_LeadingZeros32
 nat_cut:L 65=some F.nat_cut
 nat_Trim:L 66=some F.nat_Trim
 nat_Compare:L 67=some F.nat_Compare
 nat_Add:L 68=some F.nat_Add
 nat_Sub:L 69=some F.nat_Sub
 nat_Mul:L 70=some F.nat_Mul
 nat_lift:L 71=some F.nat_lift
 nat_lower:L 72=some F.nat_lower
 nat_digit:L 73=some F.nat_digit
 nat_divide:L 74=some F.nat_divide
 nat_DivMod:L 75=some F.nat_DivMod
 nat_small:L 76=some F.nat_small
 nat_leading_1:L 77=some F.nat_leading_1
 nat_leading:L 78=some F.nat_leading
 nat_cofactors:L 79=some F.nat_cofactors
 nat_combine:L 80=some F.nat_combine
 nat_shorten:L 81=some F.nat_shorten
 nat_Gcd:L 82=some F.nat_Gcd
end Go.Eng.F
namespace Go.Eng.F
open C
namespace integer_signed
def r0:List AI:=[o 4 (.alloc 83004 [(.bool false),.nil])]
def r1:List AI:=[m 5 0,m 6 5,g 7 6 true (.mov 1),g 8 6 true (.len 7),g 9 6 true (.bin .gtr 8 (k 0)),o 10 (.pick 6 9 (.c (.bool false))),m 11 1,
 o 12 (.build [(.bool false),.nil] [(0,1,10),(1,1,11)]),n (.st 2 4 12)]
def c:ACode:=(.seq (.ops r0 false) (.seq (.dr (.ops r1 false) [0,1,5,6,7,8,9,10,11,12] []) .ret))
end integer_signed
def integer_signed:AFn:=⟨2,integer_signed.c,[.cell 4 true 2],false⟩
namespace integer_Trim
def r0:List AI:=[o 1 (.box 1 0),o 2 (.alloc 2 [(.bool false),.nil])]
def r1:List AI:=[o 3 (.fadr 1 0),o 4 (.ld false 1 3),o 5 (.fadr 1 1),o 6 (.ld false 1 5),o 7 (.call 66 [6]),o 8 (.calli 83 [4,7]),n (.st 2 2 8)]
def c:ACode:=(.seq (.dr (.ops r0 false) [0] []) (.seq (.dr (.ops r1 true) [1,3,4,5,6,7,8] []) .ret))
end integer_Trim
def integer_Trim:AFn:=⟨1,integer_Trim.c,[.cell 2 true 2],false⟩
namespace integer_Of
def r0:List AI:=[o 2 (.alloc 2 [(.bool false),.nil])]
def r1:List AI:=[m 4 0,o 5 (.conv .u64 4),m 3 5]
def r2:List AI:=[m 6 0,o 7 (.bin .lss 6 (k 0))]
def r3:List AI:=[m 8 3,o 9 (.un .neg 8),m 3 9]
def r4:List AI:=[m 10 0,o 11 (.bin .lss 10 (k 0)),m 12 3,o 13 (.conv .u32 12),m 14 3,o 15 (.bin .shr 14 (.c (.int .u64 (32)))),o 16 (.conv .u32 15),
 o 17 (.bslice 17 1 [13,16]),o 18 (.call 66 [17]),o 19 (.calli 83 [11,18]),n (.st 2 2 19)]
def c:ACode:=(.seq (.ops r0 false) (.seq (.dr (.ops r1 false) [4,5] []) (.seq (.seq (.dr (.ops r2 false) [6] []) (.cond 7 (.dr (.ops r3 false) [7,8,9] []) .skip)) (.seq (.dr (.ops r4 false) [0,3,7,10,11,12,13,14,15,16,17,18,19] []) .ret))))
end integer_Of
def integer_Of:AFn:=⟨1,integer_Of.c,[.cell 2 true 2],false⟩
namespace integer_Sign
def r0:List AI:=[o 1 (.box 1 0),o 2 (.mov (k 0))]
def r1:List AI:=[o 4 (.fadr 1 1),o 5 (.ld false 1 4),o 6 (.call 67 [5,(.c .nil)]),o 7 (.bin .eql 6 (k 0)),m 3 7]
def r2:List AI:=[o 2 (.mov (k 0))]
def r3:List AI:=[o 9 (.fadr 1 0),o 10 (.ld false 1 9),m 8 10]
def r4:List AI:=[o 2 (.mov (k (-1)))]
def r5:List AI:=[o 2 (.mov (k 1))]
def c:ACode:=(.seq (.dr (.ops r0 false) [0,2] []) (.seq (.block 0 (.seq (.dr (.ops r1 false) [4,5,6,7] []) (.cond 3 (.seq (.dr (.ops r2 false) [1,3] []) .ret) (.seq (.dr (.ops r3 false) [1,3,9,10] []) (.cond 8 (.seq (.dr (.ops r4 false) [8] []) .ret) .skip))))) (.seq (.dr (.ops r5 false) [8] []) .ret)))
end integer_Sign
def integer_Sign:AFn:=⟨1,integer_Sign.c,[.tmp 2],false⟩
namespace integer_Add
def r0:List AI:=[o 2 (.box 2 0),o 3 (.box 3 1),o 4 (.alloc 4 [(.bool false),.nil])]
def r1:List AI:=[o 5 (.fadr 2 0),o 6 (.ld false 1 5),o 7 (.fadr 3 0),o 8 (.ld false 1 7),o 9 (.beq false 6 8)]
def r2:List AI:=[o 10 (.fadr 2 0),o 11 (.ld false 1 10),o 12 (.fadr 2 1),o 13 (.ld false 1 12),o 14 (.fadr 3 1),o 15 (.ld false 1 14),o 16 (.call 68 [13,15]),
 o 17 (.calli 83 [11,16]),n (.st 2 4 17)]
def r3:List AI:=[o 18 (.fadr 2 1),o 19 (.ld false 1 18),o 20 (.fadr 3 1),o 21 (.ld false 1 20),o 22 (.call 67 [19,21]),o 23 (.bin .eql 22 (k (-1)))]
def r4:List AI:=[o 24 (.fadr 3 0),o 25 (.ld false 1 24),o 26 (.fadr 3 1),o 27 (.ld false 1 26),o 28 (.fadr 2 1),o 29 (.ld false 1 28),o 30 (.call 69 [27,29]),
 o 31 (.calli 83 [25,30]),n (.st 2 4 31)]
def r5:List AI:=[o 32 (.fadr 2 0),o 33 (.ld false 1 32),o 34 (.fadr 2 1),o 35 (.ld false 1 34),o 36 (.fadr 3 1),o 37 (.ld false 1 36),o 38 (.call 69 [35,37]),
 o 39 (.calli 83 [33,38]),n (.st 2 4 39)]
def c:ACode:=(.seq (.dr (.ops r0 false) [0,1] []) (.seq (.seq (.dr (.ops r1 false) [5,6,7,8] []) (.cond 9 (.seq (.dr (.ops r2 true) [2,3,9,10,11,12,13,14,15,16,17] []) .ret) .skip)) (.seq (.seq (.dr (.ops r3 false) [9,18,19,20,21,22] []) (.cond 23 (.seq (.dr (.ops r4 true) [2,3,23,24,25,26,27,28,29,30,31] []) .ret) .skip)) (.seq (.dr (.ops r5 true) [2,3,23,32,33,34,35,36,37,38,39] []) .ret))))
end integer_Add
def integer_Add:AFn:=⟨2,integer_Add.c,[.cell 4 true 2],false⟩
namespace integer_Mul
def r0:List AI:=[o 2 (.box 2 0),o 3 (.box 3 1),o 4 (.alloc 4 [(.bool false),.nil])]
def r1:List AI:=[o 5 (.fadr 2 0),o 6 (.ld false 1 5),o 7 (.fadr 3 0),o 8 (.ld false 1 7),o 9 (.beq true 6 8),o 10 (.fadr 2 1),o 11 (.ld false 1 10),o 12 (.fadr 3 1),
 o 13 (.ld false 1 12),o 14 (.call 70 [11,13]),o 15 (.calli 83 [9,14]),n (.st 2 4 15)]
def c:ACode:=(.seq (.dr (.ops r0 false) [0,1] []) (.seq (.dr (.ops r1 true) [2,3,5,6,7,8,9,10,11,12,13,14,15] []) .ret))
end integer_Mul
def integer_Mul:AFn:=⟨2,integer_Mul.c,[.cell 4 true 2],false⟩
namespace rational_read
def r0:List AI:=[o 1 (.box 1 0),o 2 (.alloc 2 [(.bool false),.nil,.nil,(.bool false)])]
def r1:List AI:=[o 3 (.fadr 1 2),o 4 (.ld false 1 3),o 5 (.len 4),o 6 (.bin .eql 5 (k 1)),m 7 6,g 8 7 true (.fadr 1 2),g 9 7 true (.ld false 1 8),
 g 10 7 true (.iadr none 1 9 (k 0)),g 11 7 true (.ld false 1 10),g 12 7 true (.bin .eql 11 (.c (.int .u32 (1)))),o 13 (.pick 7 12 (.c (.bool false)))]
def r2:List AI:=[o 14 (.fadr 1 0),o 15 (.ld true 2 14),o 16 (.fadr 1 2),o 17 (.ld false 1 16),o 18 (.build [(.bool false),.nil,.nil] [(0,2,15),(2,1,17)]),
 o 19 (.build [(.bool false),.nil,.nil,(.bool false)] [(0,3,18),(3,1,(.c (.bool true)))]),n (.st 4 2 19)]
def r3:List AI:=[o 20 (.fadr 1 2),o 21 (.ld false 1 20),o 22 (.call 67 [21,(.c .nil)]),o 23 (.bin .eql 22 (k 0))]
def r4:List AI:=[o 24 (.build [(.bool false),.nil] []),o 25 (.bslice 25 1 [(.c (.int .u32 (1)))]),o 26 (.build [(.bool false),.nil,.nil] [(0,2,24),(2,1,25)]),
 o 27 (.build [(.bool false),.nil,.nil,(.bool false)] [(0,3,26),(3,1,(.c (.bool true)))]),n (.st 4 2 27)]
def r5:List AI:=[o 28 (.fadr 1 0),o 29 (.ld true 2 28),o 30 (.fadr 1 2),o 31 (.ld false 1 30),o 32 (.build [(.bool false),.nil,.nil] [(0,2,29),(2,1,31)]),
 o 33 (.build [(.bool false),.nil,.nil,(.bool false)] [(0,3,32),(3,1,(.c (.bool false)))]),n (.st 4 2 33)]
def c:ACode:=(.seq (.dr (.ops r0 false) [0] []) (.seq (.seq (.dr (.ops r1 false) [3,4,5,6,7,8,9,10,11,12] []) (.cond 13 (.seq (.dr (.ops r2 false) [1,13,14,15,16,17,18,19] []) .ret) .skip)) (.seq (.seq (.dr (.ops r3 false) [13,20,21,22] []) (.cond 23 (.seq (.dr (.ops r4 false) [1,23,24,25,26,27] []) .ret) .skip)) (.seq (.dr (.ops r5 false) [1,23,28,29,30,31,32,33] []) .ret))))
end rational_read
def rational_read:AFn:=⟨1,rational_read.c,[.cell 2 true 4],false⟩
namespace rational_isOne
def r0:List AI:=[o 2 (.mov (.c (.bool false)))]
def r1:List AI:=[m 3 0,o 4 (.len 3),o 5 (.bin .eql 4 (k 1)),m 6 5,g 7 6 true (.mov 0),g 8 6 true (.iadr none 1 7 (k 0)),g 9 6 true (.ld false 1 8),
 g 10 6 true (.bin .eql 9 (.c (.int .u32 (1)))),o 11 (.pick 6 10 (.c (.bool false))),m 2 11]
def c:ACode:=(.seq (.dr (.ops r0 false) [2] []) (.seq (.dr (.ops r1 false) [0,3,4,5,6,7,8,9,10,11] []) .ret))
end rational_isOne
def rational_isOne:AFn:=⟨1,rational_isOne.c,[.tmp 2],false⟩
namespace rational_natural
def r0:List AI:=[o 2 (.alloc 2 [(.bool false),.nil])]
def r1:List AI:=[m 3 0,o 4 (.build [(.bool false),.nil] [(1,1,3)]),n (.st 2 2 4)]
def c:ACode:=(.seq (.ops r0 false) (.seq (.dr (.ops r1 false) [0,3,4] []) .ret))
end rational_natural
def rational_natural:AFn:=⟨1,rational_natural.c,[.cell 2 true 2],false⟩
namespace rational_whole
def r0:List AI:=[o 1 (.box 92001 0),o 2 (.alloc 92002 [(.bool false),.nil,.nil])]
def r1:List AI:=[o 3 (.ld true 2 1),o 4 (.bslice 92004 1 [(.c (.int .u32 (1)))]),o 5 (.build [(.bool false),.nil,.nil] [(0,2,3),(2,1,4)]),n (.st 3 2 5)]
def c:ACode:=(.seq (.dr (.ops r0 false) [0] []) (.seq (.dr (.ops r1 false) [1,3,4,5] []) .ret))
end rational_whole
def rational_whole:AFn:=⟨1,rational_whole.c,[.cell 2 true 3],false⟩
namespace rational_quotient
def r0:List AI:=[o 2 (.box 93002 0),o 3 (.box 93003 1),o 4 (.alloc 93004 [(.bool false),.nil,.nil])]
def r1:List AI:=[o 5 (.fadr 2 0),o 6 (.ld false 1 5),o 7 (.fadr 3 0),o 8 (.ld false 1 7),o 9 (.beq true 6 8),o 10 (.fadr 2 1),o 11 (.ld false 1 10),
 o 12 (.build [(.bool false),.nil] [(0,1,9),(1,1,11)]),o 13 (.fadr 3 1),o 14 (.ld false 1 13),
 o 15 (.build [(.bool false),.nil,.nil] [(0,2,12),(2,1,14)]),n (.st 3 4 15)]
def c:ACode:=(.seq (.dr (.ops r0 false) [0,1] []) (.seq (.dr (.ops r1 false) [2,3,5,6,7,8,9,10,11,12,13,14,15] []) .ret))
end rational_quotient
def rational_quotient:AFn:=⟨2,rational_quotient.c,[.cell 4 true 3],false⟩
namespace rational_pair_lowest
def r0:List AI:=[o 1 (.box 1 0),o 2 (.alloc 2 [(.bool false),.nil,.nil])]
def r1:List AI:=[o 14 (.fadr 1 0),o 15 (.fadr 14 1),o 16 (.ld false 1 15),o 17 (.fadr 1 2),o 18 (.ld false 1 17),o 19 (.call 75 [16,18]),m 13 19,o 20 (.ext 13 0),
 o 21 (.ext 13 1),o 22 (.ext 13 2),m 3 20,m 4 21,m 5 22]
def r2:List AI:=[m 23 4,o 24 (.len 23),o 25 (.bin .eql 24 (k 0))]
def r3:List AI:=[o 26 (.fadr 1 0),o 27 (.fadr 26 0),o 28 (.ld false 1 27),m 29 3,o 30 (.build [(.bool false),.nil] [(0,1,28),(1,1,29)]),o 31 (.call 84 [30]),
 o 32 (.calli 92 [31]),n (.st 3 2 32)]
def r4:List AI:=[o 33 (.fadr 1 2),o 34 (.ld false 1 33),m 35 4,o 36 (.call 82 [34,35]),m 6 36]
def r5:List AI:=[m 37 6,o 38 (.call 90 [37])]
def r6:List AI:=[o 39 (.fadr 1 0),o 40 (.ld true 2 39),o 41 (.call 84 [40]),o 42 (.fadr 1 2),o 43 (.ld false 1 42),o 44 (.call 66 [43]),
 o 45 (.build [(.bool false),.nil,.nil] [(0,2,41),(2,1,44)]),n (.st 3 2 45)]
def r7:List AI:=[o 47 (.fadr 1 0),o 48 (.fadr 47 1),o 49 (.ld false 1 48),m 50 6,o 51 (.call 75 [49,50]),m 46 51,o 52 (.ext 46 0),o 53 (.ext 46 1),o 54 (.ext 46 2),
 m 7 52,m 8 53,m 9 54]
def r8:List AI:=[o 56 (.fadr 1 2),o 57 (.ld false 1 56),m 58 6,o 59 (.call 75 [57,58]),m 55 59,o 60 (.ext 55 0),o 61 (.ext 55 1),o 62 (.ext 55 2),m 10 60,m 11 61,
 m 12 62]
def r9:List AI:=[o 63 (.fadr 1 0),o 64 (.fadr 63 0),o 65 (.ld false 1 64),m 66 7,o 67 (.build [(.bool false),.nil] [(0,1,65),(1,1,66)]),m 68 10,
 o 69 (.build [(.bool false),.nil,.nil] [(0,2,67),(2,1,68)]),n (.st 3 2 69)]
def c:ACode:=(.seq (.dr (.ops r0 false) [0] []) (.seq (.dr (.ops r1 false) [5,13,14,15,16,17,18,19,20,21,22] []) (.seq (.seq (.dr (.ops r2 false) [23,24] []) (.cond 25 (.seq (.dr (.ops r3 false) [1,3,4,25,26,27,28,29,30,31,32] []) .ret) .skip)) (.seq (.dr (.ops r4 false) [3,4,25,33,34,35,36] []) (.seq (.seq (.dr (.ops r5 false) [37] []) (.cond 38 (.seq (.dr (.ops r6 true) [1,6,38,39,40,41,42,43,44,45] []) .ret) .skip)) (.seq (.dr (.ops r7 false) [8,9,38,46,47,48,49,50,51,52,53,54] []) (.seq (.dr (.ops r8 false) [6,11,12,55,56,57,58,59,60,61,62] []) (.seq (.dr (.ops r9 false) [1,7,10,63,64,65,66,67,68,69] []) .ret))))))))
end rational_pair_lowest
def rational_pair_lowest:AFn:=⟨1,rational_pair_lowest.c,[.cell 2 true 3],false⟩
namespace rational_Trim
def r0:List AI:=[o 1 (.box 1 0),o 2 (.alloc 2 [(.bool false),.nil,.nil])]
def r1:List AI:=[o 3 (.ld true 3 1),o 4 (.callq 89 [3]),o 5 (.fld 4 0 3 true),o 6 (.call 94 [5]),n (.st 3 2 6)]
def c:ACode:=(.seq (.dr (.ops r0 false) [0] []) (.seq (.dr (.ops r1 false) [1,3,4,5,6] []) .ret))
end rational_Trim
def rational_Trim:AFn:=⟨1,rational_Trim.c,[.cell 2 true 3],false⟩
namespace rational_Of
def r0:List AI:=[o 2 (.alloc 2 [(.bool false),.nil,.nil])]
def r1:List AI:=[m 3 0,o 4 (.call 85 [3]),o 5 (.calli 92 [4]),n (.st 3 2 5)]
def c:ACode:=(.seq (.ops r0 false) (.seq (.dr (.ops r1 false) [0,3,4,5] []) .ret))
end rational_Of
def rational_Of:AFn:=⟨1,rational_Of.c,[.cell 2 true 3],false⟩
namespace rational_Sign
def r0:List AI:=[o 1 (.box 1 0),o 2 (.mov (k 0))]
def r1:List AI:=[o 3 (.ld true 3 1),o 4 (.callq 89 [3]),o 5 (.fld 4 0 3 true),o 6 (.fld 5 0 2 true),o 7 (.call 86 [6]),m 2 7]
def c:ACode:=(.seq (.dr (.ops r0 false) [0,2] []) (.seq (.dr (.ops r1 false) [1,3,4,5,6,7] []) .ret))
end rational_Sign
def rational_Sign:AFn:=⟨1,rational_Sign.c,[.tmp 2],false⟩
namespace rational_Add
def r0:List AI:=[o 2 (.box 2 0),o 3 (.box 3 1),o 4 (.alloc 4 [(.bool false),.nil,.nil])]
def r1:List AI:=[⟨some 8,.ld true 3 2,none,[5,6]⟩,⟨some 9,.callq 89 [8],none,[5,6]⟩,⟨some 10,.ld true 3 3,none,[5,6]⟩,⟨some 11,.callq 89 [10],none,[5,6]⟩,
 o 5 (.alloc 5 [(.bool false),.nil,.nil,(.bool false)]),o 6 (.alloc 6 [(.bool false),.nil,.nil,(.bool false)]),n (.st 4 5 9),n (.st 4 6 11)]
def r2:List AI:=[o 12 (.fadr 5 3),o 13 (.ld false 1 12),m 14 13,g 15 14 true (.fadr 6 3),g 16 14 true (.ld false 1 15),o 17 (.pick 14 16 (.c (.bool false)))]
def r3:List AI:=[o 18 (.fadr 5 0),o 19 (.fadr 18 0),o 20 (.ld true 2 19),o 21 (.fadr 6 0),o 22 (.fadr 21 0),o 23 (.ld true 2 22),o 24 (.call 87 [20,23]),
 o 25 (.calli 92 [24]),n (.st 3 4 25)]
def r4:List AI:=[o 26 (.fadr 5 0),o 27 (.fadr 26 2),o 28 (.ld false 1 27),o 29 (.fadr 6 0),o 30 (.fadr 29 2),o 31 (.ld false 1 30),o 32 (.call 67 [28,31]),
 o 33 (.bin .eql 32 (k 0))]
def r5:List AI:=[o 34 (.fadr 5 0),o 35 (.fadr 34 0),o 36 (.ld true 2 35),o 37 (.fadr 6 0),o 38 (.fadr 37 0),o 39 (.ld true 2 38),o 40 (.call 87 [36,39]),
 o 41 (.fadr 5 0),o 42 (.fadr 41 2),o 43 (.ld false 1 42),o 44 (.build [(.bool false),.nil,.nil] [(0,2,40),(2,1,43)]),o 45 (.call 94 [44]),
 n (.st 3 4 45)]
def r6:List AI:=[o 46 (.fadr 5 0),o 47 (.fadr 46 0),⟨some 48,.ld true 2 47,none,[7]⟩,o 49 (.fadr 6 0),o 50 (.fadr 49 2),⟨some 51,.ld false 1 50,none,[7]⟩,
 ⟨some 52,.callq 91 [51],none,[7]⟩,⟨some 53,.call 88 [48,52],none,[7]⟩,o 54 (.fadr 6 0),o 55 (.fadr 54 0),⟨some 56,.ld true 2 55,none,[7]⟩,
 o 57 (.fadr 5 0),o 58 (.fadr 57 2),⟨some 59,.ld false 1 58,none,[7]⟩,⟨some 60,.callq 91 [59],none,[7]⟩,⟨some 61,.call 88 [56,60],none,[7]⟩,
 ⟨some 62,.call 87 [53,61],none,[7]⟩,o 7 (.alloc 7 [(.bool false),.nil]),n (.st 2 7 62)]
def r7:List AI:=[o 63 (.ld true 2 7),o 64 (.fadr 5 0),o 65 (.fadr 64 2),o 66 (.ld false 1 65),o 67 (.fadr 6 0),o 68 (.fadr 67 2),o 69 (.ld false 1 68),
 o 70 (.call 70 [66,69]),o 71 (.build [(.bool false),.nil,.nil] [(0,2,63),(2,1,70)]),o 72 (.call 94 [71]),n (.st 3 4 72)]
def c:ACode:=(.seq (.dr (.ops r0 false) [0,1] []) (.seq (.dr (.ops r1 true) [2,3,8,9,10,11] []) (.seq (.seq (.dr (.ops r2 false) [12,13,14,15,16] []) (.cond 17 (.seq (.dr (.ops r3 false) [5,6,17,18,19,20,21,22,23,24,25] []) .ret) .skip)) (.seq (.seq (.dr (.ops r4 false) [17,26,27,28,29,30,31,32] []) (.cond 33 (.seq (.dr (.ops r5 true) [5,6,33,34,35,36,37,38,39,40,41,42,43,44,45] []) .ret) .skip)) (.seq (.dr (.ops r6 true) [33,46,47,48,49,50,51,52,53,54,55,56,57,58,59,60,61,62] []) (.seq (.dr (.ops r7 true) [5,6,7,63,64,65,66,67,68,69,70,71,72] []) .ret))))))
end rational_Add
def rational_Add:AFn:=⟨2,rational_Add.c,[.cell 4 true 3],false⟩
namespace rational_Mul
def r0:List AI:=[o 2 (.box 2 0),o 3 (.box 3 1),o 4 (.alloc 4 [(.bool false),.nil,.nil])]
def r1:List AI:=[⟨some 8,.ld true 3 2,none,[5,6]⟩,⟨some 9,.callq 89 [8],none,[5,6]⟩,⟨some 10,.ld true 3 3,none,[5,6]⟩,⟨some 11,.callq 89 [10],none,[5,6]⟩,
 o 5 (.alloc 5 [(.bool false),.nil,.nil,(.bool false)]),o 6 (.alloc 6 [(.bool false),.nil,.nil,(.bool false)]),n (.st 4 5 9),n (.st 4 6 11)]
def r2:List AI:=[o 12 (.fadr 5 0),o 13 (.fadr 12 0),o 14 (.ld true 2 13),o 15 (.fadr 6 0),o 16 (.fadr 15 0),o 17 (.ld true 2 16),o 18 (.call 88 [14,17]),
 o 7 (.alloc 7 [(.bool false),.nil]),n (.st 2 7 18)]
def r3:List AI:=[o 19 (.fadr 5 3),o 20 (.ld false 1 19),m 21 20,g 22 21 true (.fadr 6 3),g 23 21 true (.ld false 1 22),o 24 (.pick 21 23 (.c (.bool false)))]
def r4:List AI:=[o 25 (.ld true 2 7),o 26 (.calli 92 [25]),n (.st 3 4 26)]
def r5:List AI:=[o 27 (.ld true 2 7),o 28 (.fadr 5 0),o 29 (.fadr 28 2),o 30 (.ld false 1 29),o 31 (.fadr 6 0),o 32 (.fadr 31 2),o 33 (.ld false 1 32),
 o 34 (.call 70 [30,33]),o 35 (.build [(.bool false),.nil,.nil] [(0,2,27),(2,1,34)]),o 36 (.call 94 [35]),n (.st 3 4 36)]
def c:ACode:=(.seq (.dr (.ops r0 false) [0,1] []) (.seq (.dr (.ops r1 true) [2,3,8,9,10,11] []) (.seq (.dr (.ops r2 false) [12,13,14,15,16,17,18] []) (.seq (.seq (.dr (.ops r3 false) [19,20,21,22,23] []) (.cond 24 (.seq (.dr (.ops r4 false) [5,6,7,24,25,26] []) .ret) .skip)) (.seq (.dr (.ops r5 true) [5,6,7,24,27,28,29,30,31,32,33,34,35,36] []) .ret)))))
end rational_Mul
def rational_Mul:AFn:=⟨2,rational_Mul.c,[.cell 4 true 3],false⟩
namespace rational_Div
def r0:List AI:=[o 2 (.box 2 0),o 3 (.box 3 1),o 4 (.alloc 4 [(.bool false),.nil,.nil]),o 5 (.mov (k 0))]
def r1:List AI:=[⟨some 10,.ld true 3 2,none,[6,7]⟩,⟨some 11,.callq 89 [10],none,[6,7]⟩,⟨some 12,.ld true 3 3,none,[6,7]⟩,⟨some 13,.callq 89 [12],none,[6,7]⟩,
 o 6 (.alloc 6 [(.bool false),.nil,.nil,(.bool false)]),o 7 (.alloc 7 [(.bool false),.nil,.nil,(.bool false)]),n (.st 4 6 11),n (.st 4 7 13)]
def r2:List AI:=[o 14 (.fadr 7 0),o 15 (.fadr 14 0),o 16 (.ld true 2 15),o 17 (.call 86 [16]),o 18 (.bin .eql 17 (k 0))]
def r3:List AI:=[o 19 (.build [(.bool false),.nil,.nil] []),n (.st 3 4 19),o 5 (.mov (k 3))]
def r4:List AI:=[o 20 (.fadr 6 0),o 21 (.fadr 20 0),⟨some 22,.ld true 2 21,none,[8]⟩,o 23 (.fadr 7 0),o 24 (.fadr 23 2),⟨some 25,.ld false 1 24,none,[8]⟩,
 ⟨some 26,.callq 91 [25],none,[8]⟩,⟨some 27,.call 88 [22,26],none,[8]⟩,o 8 (.alloc 8 [(.bool false),.nil]),n (.st 2 8 27)]
def r5:List AI:=[o 28 (.fadr 6 0),o 29 (.fadr 28 2),⟨some 30,.ld false 1 29,none,[9]⟩,⟨some 31,.callq 91 [30],none,[9]⟩,o 32 (.fadr 7 0),o 33 (.fadr 32 0),
 ⟨some 34,.ld true 2 33,none,[9]⟩,⟨some 35,.call 88 [31,34],none,[9]⟩,o 9 (.alloc 9 [(.bool false),.nil]),n (.st 2 9 35)]
def r6:List AI:=[o 36 (.ld true 2 8),o 37 (.ld true 2 9),o 38 (.calli 93 [36,37]),o 39 (.call 94 [38]),n (.st 3 4 39),o 5 (.mov (k 0))]
def c:ACode:=(.seq (.dr (.ops r0 false) [0,1,5] []) (.seq (.dr (.ops r1 true) [2,3,10,11,12,13] []) (.seq (.seq (.dr (.ops r2 false) [14,15,16,17] []) (.cond 18 (.seq (.dr (.ops r3 false) [6,7,18,19] []) .ret) .skip)) (.seq (.dr (.ops r4 true) [18,20,21,22,23,24,25,26,27] []) (.seq (.dr (.ops r5 true) [6,7,28,29,30,31,32,33,34,35] []) (.seq (.dr (.ops r6 false) [8,9,36,37,38,39] []) .ret))))))
end rational_Div
def rational_Div:AFn:=⟨2,rational_Div.c,[.cell 4 true 3,.tmp 5],false⟩
structure RatGLib (L:Lib):Prop extends NatGLib L where
 integer_signed:L 83=some F.integer_signed
 integer_Trim:L 84=some F.integer_Trim
 integer_Of:L 85=some F.integer_Of
 integer_Sign:L 86=some F.integer_Sign
 integer_Add:L 87=some F.integer_Add
 integer_Mul:L 88=some F.integer_Mul
 rational_read:L 89=some F.rational_read
 rational_isOne:L 90=some F.rational_isOne
 rational_natural:L 91=some F.rational_natural
 rational_whole:L 92=some F.rational_whole
 rational_quotient:L 93=some F.rational_quotient
 rational_pair_lowest:L 94=some F.rational_pair_lowest
 rational_Trim:L 95=some F.rational_Trim
 rational_Of:L 96=some F.rational_Of
 rational_Sign:L 97=some F.rational_Sign
 rational_Add:L 98=some F.rational_Add
 rational_Mul:L 99=some F.rational_Mul
 rational_Div:L 100=some F.rational_Div
end Go.Eng.F

namespace Go.Eng.F
open C
namespace ref01_Trim
def r0:List AI:=[o 2 (.mov (.c .nil))]
def r1:List AI:=[m 4 0,o 5 (.len 4),m 3 5]
def r2:List AI:=[m 6 3,o 7 (.bin .gtr 6 (k 0)),m 8 7,g 9 8 true (.mov 0),g 10 8 true (.mov 3),g 11 8 true (.bin .sub 10 (k 1)),g 12 8 true (.iadr none 1 9 11),
 g 13 8 true (.ld false 1 12),g 14 8 true (.bin .eql 13 (.c (.int .u32 (0)))),o 15 (.pick 8 14 (.c (.bool false)))]
def r3:List AI:=[m 16 3,o 17 (.bin .sub 16 (k 1)),m 3 17]
def r4:List AI:=[m 18 0,m 19 3,o 20 (.slc 1 18 none (some 19)),o 21 (.app 101021 1 4 (.c .nil) 20),m 2 21]
def l1:ACode:=(.seq (.seq (.dr (.ops r2 false) [6,7,8,9,10,11,12,13,14] []) (.cond 15 .skip (.exit 0))) (.block 1 (.dr (.ops r3 false) [15,16,17] [])))
def c:ACode:=(.seq (.dr (.ops r0 false) [2] []) (.seq (.dr (.ops r1 false) [4,5] []) (.seq (.block 0 (.loop l1)) (.seq (.dr (.ops r4 false) [0,3,15,18,19,20,21] []) .ret))))
end ref01_Trim
def ref01_Trim:AFn:=⟨1,ref01_Trim.c,[.tmp 2],false⟩
namespace ref01_Compare
def r0:List AI:=[o 4 (.mov (k 0))]
def r1:List AI:=[m 6 0,o 7 (.call 101 [6]),m 8 1,o 9 (.call 101 [8]),m 0 7,m 1 9]
def r2:List AI:=[m 10 0,o 11 (.len 10),m 12 1,o 13 (.len 12),o 14 (.bin .neq 11 13)]
def r3:List AI:=[m 15 0,o 16 (.len 15),m 17 1,o 18 (.len 17),o 19 (.bin .lss 16 18)]
def r4:List AI:=[o 4 (.mov (k (-1)))]
def r5:List AI:=[o 4 (.mov (k 1))]
def r6:List AI:=[m 20 0,o 21 (.len 20),o 22 (.bin .sub 21 (k 1)),m 5 22]
def r7:List AI:=[m 23 5,o 24 (.bin .geq 23 (k 0))]
def r9:List AI:=[m 27 0,m 28 5,o 29 (.iadr none 1 27 28),o 30 (.ld false 1 29),m 31 1,m 32 5,o 33 (.iadr none 1 31 32),o 34 (.ld false 1 33),o 35 (.bin .lss 30 34)]
def r10:List AI:=[o 4 (.mov (k (-1)))]
def r11:List AI:=[m 36 0,m 37 5,o 38 (.iadr none 1 36 37),o 39 (.ld false 1 38),m 40 1,m 41 5,o 42 (.iadr none 1 40 41),o 43 (.ld false 1 42),o 44 (.bin .gtr 39 43)]
def r12:List AI:=[o 4 (.mov (k 1))]
def r8:List AI:=[m 25 5,o 26 (.bin .sub 25 (k 1)),m 5 26]
def r13:List AI:=[o 4 (.mov (k 0))]
def l1:ACode:=(.seq (.seq (.dr (.ops r7 false) [23] []) (.cond 24 .skip (.exit 0))) (.seq (.block 1 (.seq (.seq (.dr (.ops r9 true) [24,27,28,29,30,31,32,33,34] []) (.cond 35 (.seq (.dr (.ops r10 false) [0,1,5,35] []) .ret) .skip)) (.seq (.dr (.ops r11 true) [35,36,37,38,39,40,41,42,43] []) (.cond 44 (.seq (.dr (.ops r12 false) [0,1,5,44] []) .ret) .skip)))) (.dr (.ops r8 false) [25,26,44] [])))
def c:ACode:=(.seq (.dr (.ops r0 false) [4] []) (.seq (.dr (.ops r1 false) [6,7,8,9] []) (.seq (.seq (.dr (.ops r2 false) [10,11,12,13] []) (.cond 14 (.seq (.seq (.dr (.ops r3 false) [0,1,14,15,16,17,18] []) (.cond 19 (.seq (.dr (.ops r4 false) [19] []) .ret) .skip)) (.seq (.dr (.ops r5 false) [19] []) .ret)) .skip)) (.seq (.seq (.dr (.ops r6 false) [14,20,21,22] []) (.block 0 (.loop l1))) (.seq (.dr (.ops r13 false) [0,1,5,24] []) .ret)))))
end ref01_Compare
def ref01_Compare:AFn:=⟨2,ref01_Compare.c,[.tmp 4],false⟩
namespace ref01_Add
def r0:List AI:=[o 4 (.mov (.c .nil))]
def r1:List AI:=[o 5 (.vrow 5 1)]
def r2:List AI:=[o 6 (.mov (.c (.int .u64 (0))))]
def r3:List AI:=[o 7 (.mov (k 0))]
def r4:List AI:=[m 8 7,m 9 0,o 10 (.len 9),o 11 (.bin .lss 8 10),m 12 11,g 13 12 false (.mov 7),g 14 12 false (.mov 1),g 15 12 false (.len 14),
 g 16 12 false (.bin .lss 13 15),o 17 (.pick 12 (.c (.bool true)) 16)]
def r6:List AI:=[m 20 7,m 21 0,o 22 (.len 21),o 23 (.bin .lss 20 22)]
def r7:List AI:=[m 24 6,m 25 0,m 26 7,o 27 (.iadr none 1 25 26),o 28 (.ld false 1 27),o 29 (.conv .u64 28),o 30 (.bin .add 24 29),m 6 30]
def r8:List AI:=[m 31 7,m 32 1,o 33 (.len 32),o 34 (.bin .lss 31 33)]
def r9:List AI:=[m 35 6,m 36 1,m 37 7,o 38 (.iadr none 1 36 37),o 39 (.ld false 1 38),o 40 (.conv .u64 39),o 41 (.bin .add 35 40),m 6 41]
def r10:List AI:=[m 42 5,m 43 6,o 44 (.conv .u32 43),o 45 (.bslice 45 1 [44]),o 46 (.app 46 1 4 42 45),m 5 46]
def r11:List AI:=[m 47 6,o 48 (.bin .shr 47 (.c (.int .u64 (32)))),m 6 48]
def r5:List AI:=[m 18 7,o 19 (.bin .add 18 (k 1)),m 7 19]
def r12:List AI:=[m 49 5,m 50 6,o 51 (.conv .u32 50),o 52 (.bslice 52 1 [51]),o 53 (.app 53 1 4 49 52),o 54 (.call 101 [53]),m 4 54]
def l1:ACode:=(.seq (.seq (.dr (.ops r4 false) [8,9,10,11,12,13,14,15,16] []) (.cond 17 .skip (.exit 0))) (.seq (.block 1 (.seq (.seq (.dr (.ops r6 false) [17,20,21,22] []) (.cond 23 (.dr (.ops r7 false) [23,24,25,26,27,28,29,30] []) .skip)) (.seq (.seq (.dr (.ops r8 false) [23,31,32,33] []) (.cond 34 (.dr (.ops r9 false) [34,35,36,37,38,39,40,41] []) .skip)) (.seq (.dr (.ops r10 false) [34,42,43,44,45,46] []) (.dr (.ops r11 false) [47,48] []))))) (.dr (.ops r5 false) [18,19] [])))
def c:ACode:=(.seq (.dr (.ops r0 false) [4] []) (.seq (.ops r1 false) (.seq (.ops r2 false) (.seq (.seq (.ops r3 false) (.block 0 (.loop l1))) (.seq (.dr (.ops r12 false) [0,1,5,6,7,17,49,50,51,52,53,54] []) .ret)))))
end ref01_Add
def ref01_Add:AFn:=⟨2,ref01_Add.c,[.tmp 4],false⟩
namespace ref01_Sub
def r0:List AI:=[o 4 (.mov (.c .nil))]
def r1:List AI:=[m 10 0,m 11 1,o 12 (.call 102 [10,11]),o 13 (.bin .lss 12 (k 0))]
def r2:List AI:=[o 4 (.mov (.c .nil))]
def r3:List AI:=[m 14 1,o 15 (.call 101 [14]),m 1 15]
def r4:List AI:=[m 16 0,o 17 (.calli 101 [16]),m 5 17]
def r5:List AI:=[o 6 (.mov (.c (.int .u64 (0))))]
def r6:List AI:=[o 7 (.mov (k 0))]
def r7:List AI:=[m 18 7,m 19 5,o 20 (.len 19),o 21 (.bin .lss 18 20)]
def r9:List AI:=[m 24 6,m 8 24]
def r10:List AI:=[m 25 7,m 26 1,o 27 (.len 26),o 28 (.bin .lss 25 27)]
def r11:List AI:=[m 29 8,m 30 1,m 31 7,o 32 (.iadr none 1 30 31),o 33 (.ld false 1 32),o 34 (.conv .u64 33),o 35 (.bin .add 29 34),m 8 35]
def r12:List AI:=[m 36 5,m 37 7,o 38 (.iadr none 1 36 37),o 39 (.ld false 1 38),o 40 (.conv .u64 39),m 9 40]
def r13:List AI:=[o 6 (.mov (.c (.int .u64 (0))))]
def r14:List AI:=[m 41 9,m 42 8,o 43 (.bin .lss 41 42)]
def r15:List AI:=[m 44 9,o 45 (.bin .add 44 (.c (.int .u64 (4294967296)))),m 9 45]
def r16:List AI:=[o 6 (.mov (.c (.int .u64 (1))))]
def r17:List AI:=[m 46 5,m 47 7,m 48 9,m 49 8,o 50 (.bin .sub 48 49),o 51 (.conv .u32 50),o 52 (.iadr none 1 46 47),n (.st 1 52 51)]
def r8:List AI:=[m 22 7,o 23 (.bin .add 22 (k 1)),m 7 23]
def r18:List AI:=[m 53 5,o 54 (.call 101 [53]),m 4 54]
def l1:ACode:=(.seq (.seq (.dr (.ops r7 false) [18,19,20] []) (.cond 21 .skip (.exit 0))) (.seq (.block 1 (.seq (.dr (.ops r9 false) [6,21,24] []) (.seq (.seq (.dr (.ops r10 false) [25,26,27] []) (.cond 28 (.dr (.ops r11 false) [28,29,30,31,32,33,34,35] []) .skip)) (.seq (.dr (.ops r12 false) [28,36,37,38,39,40] []) (.seq (.ops r13 false) (.seq (.seq (.dr (.ops r14 false) [41,42] []) (.cond 43 (.seq (.dr (.ops r15 false) [6,43,44,45] []) (.ops r16 false)) .skip)) (.dr (.ops r17 false) [8,9,43,46,47,48,49,50,51,52] []))))))) (.dr (.ops r8 false) [22,23] [])))
def c:ACode:=(.seq (.dr (.ops r0 false) [4] []) (.seq (.seq (.dr (.ops r1 false) [10,11,12] []) (.cond 13 (.seq (.dr (.ops r2 false) [0,1,13] []) .ret) .skip)) (.seq (.dr (.ops r3 false) [13,14,15] []) (.seq (.dr (.ops r4 false) [0,16,17] []) (.seq (.ops r5 false) (.seq (.seq (.ops r6 false) (.block 0 (.loop l1))) (.seq (.dr (.ops r18 false) [1,5,6,7,21,53,54] []) .ret)))))))
end ref01_Sub
def ref01_Sub:AFn:=⟨2,ref01_Sub.c,[.tmp 4],false⟩
namespace ref01_Mul
def r0:List AI:=[o 4 (.mov (.c .nil))]
def r1:List AI:=[m 9 0,o 10 (.len 9),m 11 1,o 12 (.len 11),o 13 (.bin .add 10 12),o 14 (.bin .add 13 (k 1)),o 15 (.mk 15 1 4 [(.int .u32 (0))] 14 14),m 5 15]
def r2:List AI:=[o 6 (.mov (k 0))]
def r3:List AI:=[m 16 6,m 17 0,o 18 (.len 17),o 19 (.bin .lss 16 18)]
def r5:List AI:=[o 7 (.mov (.c (.int .u64 (0))))]
def r6:List AI:=[o 8 (.mov (k 0))]
def r7:List AI:=[m 22 8,m 23 1,o 24 (.len 23),o 25 (.bin .lss 22 24)]
def r9:List AI:=[m 28 7,m 29 0,m 30 6,o 31 (.iadr none 1 29 30),o 32 (.ld false 1 31),o 33 (.conv .u64 32),m 34 1,m 35 8,o 36 (.iadr none 1 34 35),
 o 37 (.ld false 1 36),o 38 (.conv .u64 37),o 39 (.bin .mul 33 38),m 40 5,m 41 6,m 42 8,o 43 (.bin .add 41 42),o 44 (.iadr none 1 40 43),
 o 45 (.ld false 1 44),o 46 (.conv .u64 45),o 47 (.bin .add 39 46),o 48 (.bin .add 28 47),m 7 48]
def r10:List AI:=[m 49 5,m 50 6,m 51 8,o 52 (.bin .add 50 51),m 53 7,o 54 (.conv .u32 53),o 55 (.iadr none 1 49 52),n (.st 1 55 54)]
def r11:List AI:=[m 56 7,o 57 (.bin .shr 56 (.c (.int .u64 (32)))),m 7 57]
def r8:List AI:=[m 26 8,o 27 (.bin .add 26 (k 1)),m 8 27]
def r12:List AI:=[m 58 5,m 59 6,m 60 1,o 61 (.len 60),o 62 (.bin .add 59 61),m 63 7,o 64 (.conv .u32 63),o 65 (.iadr none 1 58 62),n (.st 1 65 64)]
def r4:List AI:=[m 20 6,o 21 (.bin .add 20 (k 1)),m 6 21]
def r13:List AI:=[m 66 5,o 67 (.call 101 [66]),m 4 67]
def l2:ACode:=(.seq (.seq (.dr (.ops r7 false) [22,23,24] []) (.cond 25 .skip (.exit 2))) (.seq (.block 3 (.seq (.dr (.ops r9 true) [25,28,29,30,31,32,33,34,35,36,37,38,39,40,41,42,43,44,45,46,47,48] []) (.seq (.dr (.ops r10 false) [49,50,51,52,53,54,55] []) (.dr (.ops r11 false) [56,57] [])))) (.dr (.ops r8 false) [26,27] [])))
def l1:ACode:=(.seq (.seq (.dr (.ops r3 false) [16,17,18] []) (.cond 19 .skip (.exit 0))) (.seq (.block 1 (.seq (.dr (.ops r5 false) [19] []) (.seq (.seq (.ops r6 false) (.block 2 (.loop l2))) (.dr (.ops r12 false) [7,8,25,58,59,60,61,62,63,64,65] [])))) (.dr (.ops r4 false) [20,21] [])))
def c:ACode:=(.seq (.dr (.ops r0 false) [4] []) (.seq (.dr (.ops r1 false) [9,10,11,12,13,14,15] []) (.seq (.seq (.ops r2 false) (.block 0 (.loop l1))) (.seq (.dr (.ops r13 false) [0,1,5,6,19,66,67] []) .ret))))
end ref01_Mul
def ref01_Mul:AFn:=⟨2,ref01_Mul.c,[.tmp 4],false⟩
namespace ref01_BitLen
def r0:List AI:=[o 2 (.mov (k 0))]
def r1:List AI:=[m 5 0,o 6 (.call 101 [5]),m 0 6]
def r2:List AI:=[m 7 0,o 8 (.len 7),o 9 (.bin .eql 8 (k 0))]
def r3:List AI:=[o 2 (.mov (k 0))]
def r4:List AI:=[m 10 0,o 11 (.len 10),o 12 (.bin .sub 11 (k 1)),o 13 (.bin .mul (k 32) 12),m 3 13]
def r5:List AI:=[m 14 0,m 15 0,o 16 (.len 15),o 17 (.bin .sub 16 (k 1)),o 18 (.iadr none 1 14 17),o 19 (.ld false 1 18),m 4 19]
def r6:List AI:=[m 20 4,o 21 (.bin .gtr 20 (.c (.int .u32 (0))))]
def r8:List AI:=[m 24 3,o 25 (.bin .add 24 (k 1)),m 3 25]
def r7:List AI:=[m 22 4,o 23 (.bin .shr 22 (.c (.int .u64 (1)))),m 4 23]
def r9:List AI:=[m 26 3,m 2 26]
def l1:ACode:=(.seq (.seq (.dr (.ops r6 false) [20] []) (.cond 21 .skip (.exit 0))) (.seq (.block 1 (.dr (.ops r8 false) [21,24,25] [])) (.dr (.ops r7 false) [22,23] [])))
def c:ACode:=(.seq (.dr (.ops r0 false) [2] []) (.seq (.dr (.ops r1 false) [5,6] []) (.seq (.seq (.dr (.ops r2 false) [7,8] []) (.cond 9 (.seq (.dr (.ops r3 false) [0,9] []) .ret) .skip)) (.seq (.dr (.ops r4 false) [9,10,11,12,13] []) (.seq (.seq (.dr (.ops r5 false) [0,14,15,16,17,18,19] []) (.block 0 (.loop l1))) (.seq (.dr (.ops r9 false) [3,4,21,26] []) .ret))))))
end ref01_BitLen
def ref01_BitLen:AFn:=⟨1,ref01_BitLen.c,[.tmp 2],false⟩
namespace ref01_Shift
def r0:List AI:=[o 4 (.mov (.c .nil))]
def r1:List AI:=[m 11 0,o 12 (.call 101 [11]),m 0 12]
def r2:List AI:=[m 13 1,o 14 (.bin .gtr 13 (k 65536)),m 15 14,g 16 15 false (.mov 0),g 17 15 false (.len 16),g 18 15 false (.bin .eql 17 (k 0)),
 o 19 (.pick 15 (.c (.bool true)) 18)]
def r3:List AI:=[o 4 (.mov (.c .nil))]
def r4:List AI:=[m 20 1,o 21 (.bin .lss 20 (k 0))]
def r5:List AI:=[m 22 1,m 23 0,o 24 (.len 23),o 25 (.bin .mul (k (-32)) 24),o 26 (.bin .lss 22 25)]
def r6:List AI:=[o 4 (.mov (.c .nil))]
def r7:List AI:=[m 27 1,o 28 (.un .neg 27),m 1 28]
def r8:List AI:=[o 5 (.vrow 107005 1)]
def r9:List AI:=[m 29 1,o 30 (.bin .quo 29 (k 32)),m 6 30]
def r10:List AI:=[m 31 6,m 32 0,o 33 (.len 32),o 34 (.bin .lss 31 33)]
def r12:List AI:=[m 37 0,m 38 6,o 39 (.iadr none 1 37 38),o 40 (.ld false 1 39),o 41 (.conv .u64 40),m 7 41]
def r13:List AI:=[m 42 6,o 43 (.bin .add 42 (k 1)),m 44 0,o 45 (.len 44),o 46 (.bin .lss 43 45)]
def r14:List AI:=[m 47 7,m 48 0,m 49 6,o 50 (.bin .add 49 (k 1)),o 51 (.iadr none 1 48 50),o 52 (.ld false 1 51),o 53 (.conv .u64 52),
 o 54 (.bin .shl 53 (.c (.int .u64 (32)))),o 55 (.bin .or 47 54),m 7 55]
def r15:List AI:=[m 56 5,m 57 7,m 58 1,o 59 (.bin .rem 58 (k 32)),o 60 (.conv .u64 59),o 61 (.bin .shr 57 60),o 62 (.conv .u32 61),o 63 (.bslice 107063 1 [62]),
 o 64 (.app 107064 1 4 56 63),m 5 64]
def r11:List AI:=[m 35 6,o 36 (.bin .add 35 (k 1)),m 6 36]
def r16:List AI:=[m 65 5,o 66 (.call 101 [65]),m 4 66]
def r17:List AI:=[m 67 1,o 68 (.bin .quo 67 (k 32)),o 69 (.mk 107069 1 4 [(.int .u32 (0))] 68 68),m 8 69]
def r18:List AI:=[o 9 (.mov (.c (.int .u64 (0))))]
def r19:List AI:=[o 10 (.mov (k 0))]
def r20:List AI:=[m 70 10,m 71 0,o 72 (.len 71),o 73 (.bin .lss 70 72)]
def r22:List AI:=[m 76 9,m 77 0,m 78 10,o 79 (.iadr none 1 77 78),o 80 (.ld false 1 79),o 81 (.conv .u64 80),m 82 1,o 83 (.bin .rem 82 (k 32)),o 84 (.conv .u64 83),
 o 85 (.bin .shl 81 84),o 86 (.bin .or 76 85),m 9 86]
def r23:List AI:=[m 87 8,m 88 9,o 89 (.conv .u32 88),o 90 (.bslice 107090 1 [89]),o 91 (.app 107091 1 4 87 90),m 8 91]
def r24:List AI:=[m 92 9,o 93 (.bin .shr 92 (.c (.int .u64 (32)))),m 9 93]
def r21:List AI:=[m 74 10,o 75 (.bin .add 74 (k 1)),m 10 75]
def r25:List AI:=[m 94 8,m 95 9,o 96 (.conv .u32 95),o 97 (.bslice 107097 1 [96]),o 98 (.app 107098 1 4 94 97),o 99 (.calli 101 [98]),m 4 99]
def l1:ACode:=(.seq (.seq (.dr (.ops r10 false) [31,32,33] []) (.cond 34 .skip (.exit 0))) (.seq (.block 1 (.seq (.dr (.ops r12 false) [34,37,38,39,40,41] []) (.seq (.seq (.dr (.ops r13 false) [42,43,44,45] []) (.cond 46 (.dr (.ops r14 false) [46,47,48,49,50,51,52,53,54,55] []) .skip)) (.dr (.ops r15 false) [7,46,56,57,58,59,60,61,62,63,64] [])))) (.dr (.ops r11 false) [35,36] [])))
def l2:ACode:=(.seq (.seq (.dr (.ops r20 false) [70,71,72] []) (.cond 73 .skip (.exit 2))) (.seq (.block 3 (.seq (.dr (.ops r22 false) [73,76,77,78,79,80,81,82,83,84,85,86] []) (.seq (.dr (.ops r23 false) [87,88,89,90,91] []) (.dr (.ops r24 false) [92,93] [])))) (.dr (.ops r21 false) [74,75] [])))
def c:ACode:=(.seq (.dr (.ops r0 false) [4] []) (.seq (.dr (.ops r1 false) [11,12] []) (.seq (.seq (.dr (.ops r2 false) [13,14,15,16,17,18] []) (.cond 19 (.seq (.dr (.ops r3 false) [0,1,19] []) .ret) .skip)) (.seq (.seq (.dr (.ops r4 false) [19,20] []) (.cond 21 (.seq (.seq (.dr (.ops r5 false) [21,22,23,24,25] []) (.cond 26 (.seq (.dr (.ops r6 false) [0,1,26] []) .ret) .skip)) (.seq (.dr (.ops r7 false) [26,27,28] []) (.seq (.ops r8 false) (.seq (.seq (.dr (.ops r9 false) [29,30] []) (.block 0 (.loop l1))) (.seq (.dr (.ops r16 false) [0,1,5,6,34,65,66] []) .ret))))) .skip)) (.seq (.dr (.ops r17 false) [21,67,68,69] []) (.seq (.ops r18 false) (.seq (.seq (.ops r19 false) (.block 2 (.loop l2))) (.seq (.dr (.ops r25 false) [0,1,8,9,10,73,94,95,96,97,98,99] []) .ret))))))))
end ref01_Shift
def ref01_Shift:AFn:=⟨2,ref01_Shift.c,[.tmp 4],false⟩
namespace ref01_small
def r0:List AI:=[o 4 (.mov (.c .nil)),o 5 (.mov (.c (.int .u32 (0))))]
def r1:List AI:=[m 9 0,o 10 (.len 9),o 11 (.mk 11 1 4 [(.int .u32 (0))] 10 10),m 6 11]
def r2:List AI:=[o 7 (.mov (.c (.int .u64 (0))))]
def r3:List AI:=[m 12 0,o 13 (.len 12),o 14 (.bin .sub 13 (k 1)),m 8 14]
def r4:List AI:=[m 15 8,o 16 (.bin .geq 15 (k 0))]
def r6:List AI:=[m 19 7,o 20 (.bin .shl 19 (.c (.int .u64 (32)))),m 21 0,m 22 8,o 23 (.iadr none 1 21 22),o 24 (.ld false 1 23),o 25 (.conv .u64 24),
 o 26 (.bin .or 20 25),m 7 26]
def r7:List AI:=[m 27 6,m 28 8,m 29 7,m 30 1,o 31 (.conv .u64 30),o 32 (.bin .quo 29 31),o 33 (.conv .u32 32),o 34 (.iadr none 1 27 28),n (.st 1 34 33)]
def r8:List AI:=[m 35 7,m 36 1,o 37 (.conv .u64 36),o 38 (.bin .rem 35 37),m 7 38]
def r5:List AI:=[m 17 8,o 18 (.bin .sub 17 (k 1)),m 8 18]
def r9:List AI:=[m 39 6,o 40 (.call 101 [39]),m 41 7,o 42 (.conv .u32 41),m 4 40,m 5 42]
def l1:ACode:=(.seq (.seq (.dr (.ops r4 false) [15] []) (.cond 16 .skip (.exit 0))) (.seq (.block 1 (.seq (.dr (.ops r6 false) [16,19,20,21,22,23,24,25,26] []) (.seq (.dr (.ops r7 false) [27,28,29,30,31,32,33,34] []) (.dr (.ops r8 false) [35,36,37,38] [])))) (.dr (.ops r5 false) [17,18] [])))
def c:ACode:=(.seq (.dr (.ops r0 false) [4,5] []) (.seq (.dr (.ops r1 false) [9,10,11] []) (.seq (.ops r2 false) (.seq (.seq (.dr (.ops r3 false) [12,13,14] []) (.block 0 (.loop l1))) (.seq (.dr (.ops r9 false) [0,1,6,7,8,16,39,40,41,42] []) .ret)))))
end ref01_small
def ref01_small:AFn:=⟨2,ref01_small.c,[.tmp 4,.tmp 5],false⟩
namespace ref01_DivMod
def r0:List AI:=[o 4 (.mov (.c .nil)),o 5 (.mov (.c .nil)),o 6 (.mov (k 0))]
def r1:List AI:=[m 27 0,o 28 (.call 101 [27]),m 29 1,o 30 (.call 101 [29]),m 0 28,m 1 30]
def r2:List AI:=[m 31 1,o 32 (.len 31),o 33 (.bin .eql 32 (k 0))]
def r3:List AI:=[o 4 (.mov (.c .nil)),o 5 (.mov (.c .nil)),o 6 (.mov (k 3))]
def r4:List AI:=[m 34 1,o 35 (.len 34),o 36 (.bin .eql 35 (k 1))]
def r5:List AI:=[m 38 0,m 39 1,o 40 (.iadr none 1 39 (k 0)),o 41 (.ld false 1 40),o 42 (.call 108 [38,41]),m 37 42,o 43 (.ext 37 0),o 44 (.ext 37 1),m 7 43,m 8 44]
def r6:List AI:=[m 45 7,m 46 8,o 47 (.bslice 47 1 [46]),o 48 (.call 101 [47]),m 4 45,m 5 48,o 6 (.mov (k 0))]
def r7:List AI:=[m 49 0,m 50 1,o 51 (.call 102 [49,50]),o 52 (.bin .lss 51 (k 0))]
def r8:List AI:=[m 53 0,o 4 (.mov (.c .nil)),m 5 53,o 6 (.mov (k 0))]
def r9:List AI:=[m 54 1,m 55 1,o 56 (.len 55),o 57 (.bin .sub 56 (k 1)),o 58 (.slc 1 54 (some 57) none),o 59 (.call 106 [58]),o 60 (.bin .sub (k 32) 59),m 9 60]
def r10:List AI:=[m 61 0,m 62 9,o 63 (.calli 107 [61,62]),m 64 1,m 65 9,o 66 (.call 107 [64,65]),m 10 63,m 11 66]
def r11:List AI:=[m 67 10,o 68 (.bslice 68 1 [(.c (.int .u32 (0)))]),o 69 (.app 69 1 4 67 68),m 10 69]
def r12:List AI:=[m 70 10,o 71 (.len 70),m 72 0,o 73 (.len 72),o 74 (.bin .add 73 (k 1)),o 75 (.bin .lss 71 74)]
def r13:List AI:=[m 76 10,o 77 (.bslice 77 1 [(.c (.int .u32 (0)))]),o 78 (.app 78 1 4 76 77),m 10 78]
def r14:List AI:=[m 79 11,o 80 (.len 79),m 12 80]
def r15:List AI:=[m 81 10,o 82 (.len 81),m 83 12,o 84 (.bin .sub 82 83),o 85 (.mk 85 1 4 [(.int .u32 (0))] 84 84),m 13 85]
def r16:List AI:=[m 86 10,o 87 (.len 86),m 88 12,o 89 (.bin .sub 87 88),o 90 (.bin .sub 89 (k 1)),m 14 90]
def r17:List AI:=[m 91 14,o 92 (.bin .geq 91 (k 0))]
def r19:List AI:=[m 95 10,m 96 14,m 97 12,o 98 (.bin .add 96 97),o 99 (.iadr none 1 95 98),o 100 (.ld false 1 99),o 101 (.conv .u64 100),
 o 102 (.bin .shl 101 (.c (.int .u64 (32)))),m 103 10,m 104 14,m 105 12,o 106 (.bin .add 104 105),o 107 (.bin .sub 106 (k 1)),
 o 108 (.iadr none 1 103 107),o 109 (.ld false 1 108),o 110 (.conv .u64 109),o 111 (.bin .or 102 110),m 15 111]
def r20:List AI:=[m 112 15,m 113 11,m 114 12,o 115 (.bin .sub 114 (k 1)),o 116 (.iadr none 1 113 115),o 117 (.ld false 1 116),o 118 (.conv .u64 117),
 o 119 (.bin .quo 112 118),m 16 119]
def r21:List AI:=[m 120 15,m 121 11,m 122 12,o 123 (.bin .sub 122 (k 1)),o 124 (.iadr none 1 121 123),o 125 (.ld false 1 124),o 126 (.conv .u64 125),
 o 127 (.bin .rem 120 126),m 17 127]
def r22:List AI:=[m 128 16,o 129 (.bin .geq 128 (.c (.int .u64 (4294967296)))),m 130 129,g 131 130 false (.mov 16),g 132 130 false (.mov 11),g 133 130 false (.mov 12),
 g 134 130 false (.bin .sub 133 (k 2)),g 135 130 false (.iadr none 1 132 134),g 136 130 false (.ld false 1 135),g 137 130 false (.conv .u64 136),
 g 138 130 false (.bin .mul 131 137),g 139 130 false (.mov 17),g 140 130 false (.bin .shl 139 (.c (.int .u64 (32)))),g 141 130 false (.mov 10),
 g 142 130 false (.mov 14),g 143 130 false (.mov 12),g 144 130 false (.bin .add 142 143),g 145 130 false (.bin .sub 144 (k 2)),
 g 146 130 false (.iadr none 1 141 145),g 147 130 false (.ld false 1 146),g 148 130 false (.conv .u64 147),g 149 130 false (.bin .or 140 148),
 g 150 130 false (.bin .gtr 138 149),o 151 (.pick 130 (.c (.bool true)) 150)]
def r23:List AI:=[m 152 16,o 153 (.bin .sub 152 (.c (.int .u64 (1)))),m 16 153]
def r24:List AI:=[m 154 17,m 155 11,m 156 12,o 157 (.bin .sub 156 (k 1)),o 158 (.iadr none 1 155 157),o 159 (.ld false 1 158),o 160 (.conv .u64 159),
 o 161 (.bin .add 154 160),m 17 161]
def r25:List AI:=[m 162 17,o 163 (.bin .geq 162 (.c (.int .u64 (4294967296))))]
def r26:List AI:=[o 18 (.mov (.c (.int .u64 (0)))),o 19 (.mov (.c (.int .u64 (0))))]
def r27:List AI:=[o 20 (.mov (k 0))]
def r28:List AI:=[m 164 20,m 165 12,o 166 (.bin .lss 164 165)]
def r30:List AI:=[m 169 19,m 170 16,m 171 11,m 172 20,o 173 (.iadr none 1 171 172),o 174 (.ld false 1 173),o 175 (.conv .u64 174),o 176 (.bin .mul 170 175),
 o 177 (.bin .add 169 176),m 19 177]
def r31:List AI:=[m 178 19,o 179 (.bin .and 178 (.c (.int .u64 (4294967295)))),m 180 18,o 181 (.bin .add 179 180),m 21 181]
def r32:List AI:=[m 182 19,o 183 (.bin .shr 182 (.c (.int .u64 (32)))),m 19 183]
def r33:List AI:=[m 184 10,m 185 20,m 186 14,o 187 (.bin .add 185 186),o 188 (.iadr none 1 184 187),o 189 (.ld false 1 188),o 190 (.conv .u64 189),m 22 190]
def r34:List AI:=[o 18 (.mov (.c (.int .u64 (0))))]
def r35:List AI:=[m 191 22,m 192 21,o 193 (.bin .lss 191 192)]
def r36:List AI:=[m 194 22,o 195 (.bin .add 194 (.c (.int .u64 (4294967296)))),m 22 195]
def r37:List AI:=[o 18 (.mov (.c (.int .u64 (1))))]
def r38:List AI:=[m 196 10,m 197 20,m 198 14,o 199 (.bin .add 197 198),m 200 22,m 201 21,o 202 (.bin .sub 200 201),o 203 (.conv .u32 202),o 204 (.iadr none 1 196 199),
 n (.st 1 204 203)]
def r29:List AI:=[m 167 20,o 168 (.bin .add 167 (k 1)),m 20 168]
def r39:List AI:=[m 205 19,m 206 18,o 207 (.bin .add 205 206),m 23 207]
def r40:List AI:=[m 208 10,m 209 14,m 210 12,o 211 (.bin .add 209 210),o 212 (.iadr none 1 208 211),o 213 (.ld false 1 212),o 214 (.conv .u64 213),m 24 214]
def r41:List AI:=[o 18 (.mov (.c (.int .u64 (0))))]
def r42:List AI:=[m 215 24,m 216 23,o 217 (.bin .lss 215 216)]
def r43:List AI:=[m 218 24,o 219 (.bin .add 218 (.c (.int .u64 (4294967296)))),m 24 219]
def r44:List AI:=[o 18 (.mov (.c (.int .u64 (1))))]
def r45:List AI:=[m 220 10,m 221 14,m 222 12,o 223 (.bin .add 221 222),m 224 24,m 225 23,o 226 (.bin .sub 224 225),o 227 (.conv .u32 226),o 228 (.iadr none 1 220 223),
 n (.st 1 228 227)]
def r46:List AI:=[m 229 18,o 230 (.bin .eql 229 (.c (.int .u64 (1))))]
def r47:List AI:=[m 231 16,o 232 (.bin .sub 231 (.c (.int .u64 (1)))),m 16 232]
def r48:List AI:=[o 25 (.mov (.c (.int .u64 (0))))]
def r49:List AI:=[o 26 (.mov (k 0))]
def r50:List AI:=[m 233 26,m 234 12,o 235 (.bin .lss 233 234)]
def r52:List AI:=[m 238 25,m 239 10,m 240 26,m 241 14,o 242 (.bin .add 240 241),o 243 (.iadr none 1 239 242),o 244 (.ld false 1 243),o 245 (.conv .u64 244),m 246 11,
 m 247 26,o 248 (.iadr none 1 246 247),o 249 (.ld false 1 248),o 250 (.conv .u64 249),o 251 (.bin .add 245 250),o 252 (.bin .add 238 251),m 25 252]
def r53:List AI:=[m 253 10,m 254 26,m 255 14,o 256 (.bin .add 254 255),m 257 25,o 258 (.conv .u32 257),o 259 (.iadr none 1 253 256),n (.st 1 259 258)]
def r54:List AI:=[m 260 25,o 261 (.bin .shr 260 (.c (.int .u64 (32)))),m 25 261]
def r51:List AI:=[m 236 26,o 237 (.bin .add 236 (k 1)),m 26 237]
def r55:List AI:=[m 262 10,m 263 14,m 264 12,o 265 (.bin .add 263 264),o 266 (.iadr none 1 262 265),o 267 (.ld false 1 266),m 268 25,o 269 (.conv .u32 268),
 o 270 (.bin .add 267 269),o 271 (.iadr none 1 262 265),n (.st 1 271 270)]
def r56:List AI:=[m 272 13,m 273 14,m 274 16,o 275 (.conv .u32 274),o 276 (.iadr none 1 272 273),n (.st 1 276 275)]
def r18:List AI:=[m 93 14,o 94 (.bin .sub 93 (k 1)),m 14 94]
def r57:List AI:=[m 277 13,o 278 (.call 101 [277]),m 279 10,m 280 12,o 281 (.slc 1 279 none (some 280)),m 282 9,o 283 (.un .neg 282),o 284 (.call 107 [281,283]),m 4 278,
 m 5 284,o 6 (.mov (k 0))]
def l1:ACode:=(.seq (.seq (.dr (.ops r12 false) [70,71,72,73,74] []) (.cond 75 .skip (.exit 0))) (.block 1 (.dr (.ops r13 false) [75,76,77,78] [])))
def l3:ACode:=(.seq (.seq (.dr (.ops r22 true) [128,129,130,131,132,133,134,135,136,137,138,139,140,141,142,143,144,145,146,147,148,149,150,163] []) (.cond 151 .skip (.exit 4))) (.block 5 (.seq (.dr (.ops r23 false) [151,152,153] []) (.seq (.dr (.ops r24 false) [154,155,156,157,158,159,160,161] []) (.seq (.dr (.ops r25 false) [162] []) (.cond 163 (.exit 4) .skip))))))
def l4:ACode:=(.seq (.seq (.dr (.ops r28 false) [164,165] []) (.cond 166 .skip (.exit 6))) (.seq (.block 7 (.seq (.dr (.ops r30 false) [166,169,170,171,172,173,174,175,176,177] []) (.seq (.dr (.ops r31 false) [18,178,179,180,181] []) (.seq (.dr (.ops r32 false) [182,183] []) (.seq (.dr (.ops r33 false) [184,185,186,187,188,189,190] []) (.seq (.ops r34 false) (.seq (.seq (.dr (.ops r35 false) [191,192] []) (.cond 193 (.seq (.dr (.ops r36 false) [18,193,194,195] []) (.ops r37 false)) .skip)) (.dr (.ops r38 false) [21,22,193,196,197,198,199,200,201,202,203,204] [])))))))) (.dr (.ops r29 false) [167,168] [])))
def l5:ACode:=(.seq (.seq (.dr (.ops r50 false) [233,234] []) (.cond 235 .skip (.exit 8))) (.seq (.block 9 (.seq (.dr (.ops r52 true) [235,238,239,240,241,242,243,244,245,246,247,248,249,250,251,252] []) (.seq (.dr (.ops r53 false) [253,254,255,256,257,258,259] []) (.dr (.ops r54 false) [260,261] [])))) (.dr (.ops r51 false) [236,237] [])))
def l2:ACode:=(.seq (.seq (.dr (.ops r17 false) [91] []) (.cond 92 .skip (.exit 2))) (.seq (.block 3 (.seq (.dr (.ops r19 true) [92,95,96,97,98,99,100,101,102,103,104,105,106,107,108,109,110,111] []) (.seq (.dr (.ops r20 false) [112,113,114,115,116,117,118,119] []) (.seq (.dr (.ops r21 false) [15,120,121,122,123,124,125,126,127] []) (.seq (.block 4 (.loop l3)) (.seq (.dr (.ops r26 false) [17,151,163] []) (.seq (.seq (.ops r27 false) (.block 6 (.loop l4))) (.seq (.dr (.ops r39 false) [18,19,20,166,205,206,207] []) (.seq (.dr (.ops r40 false) [208,209,210,211,212,213,214] []) (.seq (.ops r41 false) (.seq (.seq (.dr (.ops r42 false) [215,216] []) (.cond 217 (.seq (.dr (.ops r43 false) [18,217,218,219] []) (.ops r44 false)) .skip)) (.seq (.dr (.ops r45 false) [23,24,217,220,221,222,223,224,225,226,227,228] []) (.seq (.seq (.dr (.ops r46 false) [18,229] []) (.cond 230 (.seq (.dr (.ops r47 false) [230,231,232] []) (.seq (.ops r48 false) (.seq (.seq (.ops r49 false) (.block 8 (.loop l5))) (.dr (.ops r55 false) [25,26,235,262,263,264,265,266,267,268,269,270,271] [])))) .skip)) (.dr (.ops r56 false) [16,230,272,273,274,275,276] [])))))))))))))) (.dr (.ops r18 false) [93,94] [])))
def c:ACode:=(.seq (.dr (.ops r0 false) [4,5,6] []) (.seq (.dr (.ops r1 false) [27,28,29,30] []) (.seq (.seq (.dr (.ops r2 false) [31,32] []) (.cond 33 (.seq (.dr (.ops r3 false) [0,1,33] []) .ret) .skip)) (.seq (.seq (.dr (.ops r4 false) [33,34,35] []) (.cond 36 (.seq (.dr (.ops r5 false) [0,1,36,37,38,39,40,41,42,43,44] []) (.seq (.dr (.ops r6 false) [7,8,45,46,47,48] []) .ret)) .skip)) (.seq (.seq (.dr (.ops r7 false) [36,49,50,51] []) (.cond 52 (.seq (.dr (.ops r8 false) [0,1,52,53] []) .ret) .skip)) (.seq (.dr (.ops r9 false) [52,54,55,56,57,58,59,60] []) (.seq (.dr (.ops r10 false) [1,61,62,63,64,65,66] []) (.seq (.dr (.ops r11 false) [67,68,69] []) (.seq (.block 0 (.loop l1)) (.seq (.dr (.ops r14 false) [0,75,79,80] []) (.seq (.dr (.ops r15 false) [81,82,83,84,85] []) (.seq (.seq (.dr (.ops r16 false) [86,87,88,89,90] []) (.block 2 (.loop l2))) (.seq (.dr (.ops r57 true) [9,10,11,12,13,14,92,277,278,279,280,281,282,283,284] []) .ret)))))))))))))
end ref01_DivMod
def ref01_DivMod:AFn:=⟨2,ref01_DivMod.c,[.tmp 4,.tmp 5,.tmp 6],false⟩
namespace ref01_Gcd
def r0:List AI:=[o 4 (.mov (.c .nil))]
def r1:List AI:=[m 8 0,o 9 (.call 101 [8]),m 10 1,o 11 (.call 101 [10]),m 0 9,m 1 11]
def r2:List AI:=[m 12 1,o 13 (.len 12),o 14 (.bin .gtr 13 (k 0))]
def r3:List AI:=[m 16 0,m 17 1,o 18 (.call 109 [16,17]),m 15 18,o 19 (.ext 15 0),o 20 (.ext 15 1),o 21 (.ext 15 2),m 5 19,m 6 20,m 7 21]
def r4:List AI:=[m 22 1,m 23 6,m 0 22,m 1 23]
def r5:List AI:=[m 24 0,m 4 24]
def l1:ACode:=(.seq (.seq (.dr (.ops r2 false) [12,13] []) (.cond 14 .skip (.exit 0))) (.block 1 (.seq (.dr (.ops r3 false) [0,5,7,14,15,16,17,18,19,20,21] []) (.dr (.ops r4 false) [6,22,23] []))))
def c:ACode:=(.seq (.dr (.ops r0 false) [4] []) (.seq (.dr (.ops r1 false) [8,9,10,11] []) (.seq (.block 0 (.loop l1)) (.seq (.dr (.ops r5 false) [0,1,14,24] []) .ret))))
end ref01_Gcd
def ref01_Gcd:AFn:=⟨2,ref01_Gcd.c,[.tmp 4],false⟩
namespace ref02_Trim
def r0:List AI:=[o 1 (.box 1 0),o 2 (.alloc 2 [(.bool false),.nil])]
def r1:List AI:=[o 4 (.fadr 1 1),o 5 (.ld false 1 4),o 6 (.call 101 [5]),m 3 6]
def r2:List AI:=[o 7 (.fadr 1 0),o 8 (.ld false 1 7),m 9 8,g 10 9 true (.mov 3),g 11 9 true (.len 10),g 12 9 true (.bin .gtr 11 (k 0)),
 o 13 (.pick 9 12 (.c (.bool false))),m 14 3,o 15 (.build [(.bool false),.nil] [(0,1,13),(1,1,14)]),n (.st 2 2 15)]
def c:ACode:=(.seq (.dr (.ops r0 false) [0] []) (.seq (.dr (.ops r1 false) [4,5,6] []) (.seq (.dr (.ops r2 false) [1,3,7,8,9,10,11,12,13,14,15] []) .ret)))
end ref02_Trim
def ref02_Trim:AFn:=⟨1,ref02_Trim.c,[.cell 2 true 2],false⟩
namespace ref02_Of
def r0:List AI:=[o 2 (.alloc 2 [(.bool false),.nil])]
def r1:List AI:=[m 4 0,o 5 (.bin .lss 4 (k 0))]
def r2:List AI:=[m 6 0,o 7 (.bin .add 6 (k 1)),o 8 (.un .neg 7),o 9 (.conv .u64 8),o 10 (.bin .add 9 (.c (.int .u64 (1)))),m 3 10]
def r3:List AI:=[m 11 3,o 12 (.conv .u32 11),m 13 3,o 14 (.bin .shr 13 (.c (.int .u64 (32)))),o 15 (.conv .u32 14),o 16 (.bslice 16 1 [12,15]),
 o 17 (.build [(.bool false),.nil] [(0,1,(.c (.bool true))),(1,1,16)]),o 18 (.call 111 [17]),n (.st 2 2 18)]
def r4:List AI:=[m 19 0,o 20 (.conv .u32 19),m 21 0,o 22 (.conv .u64 21),o 23 (.bin .shr 22 (.c (.int .u64 (32)))),o 24 (.conv .u32 23),o 25 (.bslice 25 1 [20,24]),
 o 26 (.build [(.bool false),.nil] [(1,1,25)]),o 27 (.call 111 [26]),n (.st 2 2 27)]
def c:ACode:=(.seq (.ops r0 false) (.seq (.seq (.dr (.ops r1 false) [4] []) (.cond 5 (.seq (.dr (.ops r2 false) [0,5,6,7,8,9,10] []) (.seq (.dr (.ops r3 false) [3,11,12,13,14,15,16,17,18] []) .ret)) .skip)) (.seq (.dr (.ops r4 false) [0,5,19,20,21,22,23,24,25,26,27] []) .ret)))
end ref02_Of
def ref02_Of:AFn:=⟨1,ref02_Of.c,[.cell 2 true 2],false⟩
namespace ref02_Sign
def r0:List AI:=[o 1 (.box 1 0),o 2 (.mov (k 0))]
def r1:List AI:=[o 3 (.ld true 2 1),o 4 (.call 111 [3]),n (.st 2 1 4)]
def r2:List AI:=[o 6 (.fadr 1 1),o 7 (.ld false 1 6),o 8 (.len 7),o 9 (.bin .eql 8 (k 0)),m 5 9]
def r3:List AI:=[o 2 (.mov (k 0))]
def r4:List AI:=[o 11 (.fadr 1 0),o 12 (.ld false 1 11),m 10 12]
def r5:List AI:=[o 2 (.mov (k (-1)))]
def r6:List AI:=[o 2 (.mov (k 1))]
def c:ACode:=(.seq (.dr (.ops r0 false) [0,2] []) (.seq (.dr (.ops r1 false) [3,4] []) (.seq (.block 0 (.seq (.dr (.ops r2 false) [6,7,8,9] []) (.cond 5 (.seq (.dr (.ops r3 false) [1,5] []) .ret) (.seq (.dr (.ops r4 false) [1,5,11,12] []) (.cond 10 (.seq (.dr (.ops r5 false) [10] []) .ret) .skip))))) (.seq (.dr (.ops r6 false) [10] []) .ret))))
end ref02_Sign
def ref02_Sign:AFn:=⟨1,ref02_Sign.c,[.tmp 2],false⟩
namespace ref02_Neg
def r0:List AI:=[o 1 (.box 1 0),o 2 (.alloc 2 [(.bool false),.nil])]
def r1:List AI:=[o 3 (.ld true 2 1),o 4 (.call 111 [3]),n (.st 2 1 4)]
def r2:List AI:=[o 5 (.fadr 1 0),o 6 (.ld false 1 5),o 7 (.un .not 6),m 8 7,g 9 8 true (.fadr 1 1),g 10 8 true (.ld false 1 9),g 11 8 true (.len 10),
 g 12 8 true (.bin .gtr 11 (k 0)),o 13 (.pick 8 12 (.c (.bool false))),o 14 (.fadr 1 0),n (.st 1 14 13)]
def r3:List AI:=[o 15 (.ld true 2 1),n (.st 2 2 15)]
def c:ACode:=(.seq (.dr (.ops r0 false) [0] []) (.seq (.dr (.ops r1 false) [3,4] []) (.seq (.dr (.ops r2 false) [5,6,7,8,9,10,11,12,13,14] []) (.seq (.dr (.ops r3 false) [1,15] []) .ret))))
end ref02_Neg
def ref02_Neg:AFn:=⟨1,ref02_Neg.c,[.cell 2 true 2],false⟩
namespace ref02_Add
def r0:List AI:=[o 2 (.box 2 0),o 3 (.box 3 1),o 4 (.alloc 4 [(.bool false),.nil])]
def r1:List AI:=[o 5 (.ld true 2 2),o 6 (.call 111 [5]),o 7 (.ld true 2 3),o 8 (.call 111 [7]),n (.st 2 2 6),n (.st 2 3 8)]
def r2:List AI:=[o 9 (.fadr 2 0),o 10 (.ld false 1 9),o 11 (.fadr 3 0),o 12 (.ld false 1 11),o 13 (.beq false 10 12)]
def r3:List AI:=[o 14 (.fadr 2 0),o 15 (.ld false 1 14),o 16 (.fadr 2 1),o 17 (.ld false 1 16),o 18 (.fadr 3 1),o 19 (.ld false 1 18),o 20 (.call 103 [17,19]),
 o 21 (.build [(.bool false),.nil] [(0,1,15),(1,1,20)]),o 22 (.call 111 [21]),n (.st 2 4 22)]
def r4:List AI:=[o 23 (.fadr 2 1),o 24 (.ld false 1 23),o 25 (.fadr 3 1),o 26 (.ld false 1 25),o 27 (.call 102 [24,26]),o 28 (.bin .geq 27 (k 0))]
def r5:List AI:=[o 29 (.fadr 2 0),o 30 (.ld false 1 29),o 31 (.fadr 2 1),o 32 (.ld false 1 31),o 33 (.fadr 3 1),o 34 (.ld false 1 33),o 35 (.call 104 [32,34]),
 o 36 (.build [(.bool false),.nil] [(0,1,30),(1,1,35)]),o 37 (.call 111 [36]),n (.st 2 4 37)]
def r6:List AI:=[o 38 (.fadr 3 0),o 39 (.ld false 1 38),o 40 (.fadr 3 1),o 41 (.ld false 1 40),o 42 (.fadr 2 1),o 43 (.ld false 1 42),o 44 (.call 104 [41,43]),
 o 45 (.build [(.bool false),.nil] [(0,1,39),(1,1,44)]),o 46 (.call 111 [45]),n (.st 2 4 46)]
def c:ACode:=(.seq (.dr (.ops r0 false) [0,1] []) (.seq (.dr (.ops r1 true) [5,6,7,8] []) (.seq (.seq (.dr (.ops r2 false) [9,10,11,12] []) (.cond 13 (.seq (.dr (.ops r3 true) [2,3,13,14,15,16,17,18,19,20,21,22] []) .ret) .skip)) (.seq (.seq (.dr (.ops r4 false) [13,23,24,25,26,27] []) (.cond 28 (.seq (.dr (.ops r5 true) [2,3,28,29,30,31,32,33,34,35,36,37] []) .ret) .skip)) (.seq (.dr (.ops r6 true) [2,3,28,38,39,40,41,42,43,44,45,46] []) .ret)))))
end ref02_Add
def ref02_Add:AFn:=⟨2,ref02_Add.c,[.cell 4 true 2],false⟩
namespace ref02_Sub
def r0:List AI:=[o 2 (.box 2 0),o 3 (.box 3 1),o 4 (.alloc 4 [(.bool false),.nil])]
def r1:List AI:=[o 5 (.ld true 2 2),o 6 (.ld true 2 3),o 7 (.call 114 [6]),o 8 (.call 115 [5,7]),n (.st 2 4 8)]
def c:ACode:=(.seq (.dr (.ops r0 false) [0,1] []) (.seq (.dr (.ops r1 true) [2,3,5,6,7,8] []) .ret))
end ref02_Sub
def ref02_Sub:AFn:=⟨2,ref02_Sub.c,[.cell 4 true 2],false⟩
namespace ref02_Compare
def r0:List AI:=[o 2 (.box 2 0),o 3 (.box 3 1),o 4 (.mov (k 0))]
def r1:List AI:=[o 5 (.ld true 2 2),o 6 (.ld true 2 3),o 7 (.call 116 [5,6]),o 8 (.call 113 [7]),m 4 8]
def c:ACode:=(.seq (.dr (.ops r0 false) [0,1,4] []) (.seq (.dr (.ops r1 false) [2,3,5,6,7,8] []) .ret))
end ref02_Compare
def ref02_Compare:AFn:=⟨2,ref02_Compare.c,[.tmp 4],false⟩
namespace ref02_Mul
def r0:List AI:=[o 2 (.box 2 0),o 3 (.box 3 1),o 4 (.alloc 4 [(.bool false),.nil])]
def r1:List AI:=[o 5 (.fadr 2 0),o 6 (.ld false 1 5),o 7 (.fadr 3 0),o 8 (.ld false 1 7),o 9 (.beq true 6 8),o 10 (.fadr 2 1),o 11 (.ld false 1 10),o 12 (.fadr 3 1),
 o 13 (.ld false 1 12),o 14 (.call 105 [11,13]),o 15 (.build [(.bool false),.nil] [(0,1,9),(1,1,14)]),o 16 (.call 111 [15]),n (.st 2 4 16)]
def c:ACode:=(.seq (.dr (.ops r0 false) [0,1] []) (.seq (.dr (.ops r1 true) [2,3,5,6,7,8,9,10,11,12,13,14,15,16] []) .ret))
end ref02_Mul
def ref02_Mul:AFn:=⟨2,ref02_Mul.c,[.cell 4 true 2],false⟩
namespace ref02_Div
def r0:List AI:=[o 2 (.box 2 0),o 3 (.box 3 1),o 4 (.alloc 4 [(.bool false),.nil]),o 5 (.alloc 5 [(.bool false),.nil]),o 6 (.mov (k 0))]
def r1:List AI:=[o 10 (.ld true 2 2),o 11 (.call 111 [10]),o 12 (.ld true 2 3),o 13 (.call 111 [12]),n (.st 2 2 11),n (.st 2 3 13)]
def r2:List AI:=[o 15 (.fadr 2 1),o 16 (.ld false 1 15),o 17 (.fadr 3 1),o 18 (.ld false 1 17),o 19 (.call 109 [16,18]),m 14 19,o 20 (.ext 14 0),o 21 (.ext 14 1),
 o 22 (.ext 14 2),m 7 20,m 8 21,m 9 22]
def r3:List AI:=[m 23 9,o 24 (.bin .neq 23 (k 0))]
def r4:List AI:=[o 25 (.build [(.bool false),.nil] []),o 26 (.build [(.bool false),.nil] []),m 27 9,n (.st 2 4 25),n (.st 2 5 26),m 6 27]
def r5:List AI:=[o 28 (.fadr 2 0),o 29 (.ld false 1 28),m 30 29,g 31 30 true (.mov 8),g 32 30 true (.len 31),g 33 30 true (.bin .gtr 32 (k 0)),
 o 34 (.pick 30 33 (.c (.bool false)))]
def r6:List AI:=[m 35 7,o 36 (.bslice 36 1 [(.c (.int .u32 (1)))]),o 37 (.call 103 [35,36]),o 38 (.fadr 3 1),⟨some 39,.ld false 1 38,none,[36]⟩,m 40 8,
 o 41 (.call 104 [39,40]),m 7 37,m 8 41]
def r7:List AI:=[o 42 (.fadr 2 0),o 43 (.ld false 1 42),o 44 (.fadr 3 0),o 45 (.ld false 1 44),o 46 (.beq true 43 45),m 47 7,
 o 48 (.build [(.bool false),.nil] [(0,1,46),(1,1,47)]),o 49 (.call 111 [48]),m 50 8,o 51 (.build [(.bool false),.nil] [(1,1,50)]),n (.st 2 4 49),
 n (.st 2 5 51),o 6 (.mov (k 0))]
def c:ACode:=(.seq (.dr (.ops r0 false) [0,1,6] []) (.seq (.dr (.ops r1 true) [10,11,12,13] []) (.seq (.dr (.ops r2 false) [14,15,16,17,18,19,20,21,22] []) (.seq (.seq (.dr (.ops r3 false) [23] []) (.cond 24 (.seq (.dr (.ops r4 false) [2,3,7,8,9,24,25,26,27] []) .ret) .skip)) (.seq (.seq (.dr (.ops r5 false) [9,24,28,29,30,31,32,33] []) (.cond 34 (.dr (.ops r6 true) [34,35,36,37,38,39,40,41] []) .skip)) (.seq (.dr (.ops r7 false) [2,3,7,8,34,42,43,44,45,46,47,48,49,50,51] []) .ret))))))
end ref02_Div
def ref02_Div:AFn:=⟨2,ref02_Div.c,[.cell 4 true 2,.cell 5 true 2,.tmp 6],false⟩
namespace ref02_Gcd
def r0:List AI:=[o 2 (.box 2 0),o 3 (.box 3 1),o 4 (.alloc 4 [(.bool false),.nil])]
def r1:List AI:=[o 5 (.fadr 2 1),o 6 (.ld false 1 5),o 7 (.fadr 3 1),o 8 (.ld false 1 7),o 9 (.call 110 [6,8]),o 10 (.build [(.bool false),.nil] [(1,1,9)]),
 n (.st 2 4 10)]
def c:ACode:=(.seq (.dr (.ops r0 false) [0,1] []) (.seq (.dr (.ops r1 false) [2,3,5,6,7,8,9,10] []) .ret))
end ref02_Gcd
def ref02_Gcd:AFn:=⟨2,ref02_Gcd.c,[.cell 4 true 2],false⟩
namespace ref03_reduce
def r0:List AI:=[o 2 (.box 2 0),o 3 (.box 3 1),o 4 (.alloc 4 [(.bool false),.nil,.nil])]
def r1:List AI:=[o 12 (.ld true 2 2),o 13 (.call 113 [12]),o 14 (.bin .eql 13 (k 0)),m 15 14,g 16 15 false (.ld true 2 3),g 17 15 false (.call 113 [16]),
 g 18 15 false (.bin .eql 17 (k 0)),o 19 (.pick 15 (.c (.bool true)) 18)]
def r2:List AI:=[o 20 (.bslice 20 1 [(.c (.int .u32 (1)))]),o 21 (.build [(.bool false),.nil,.nil] [(2,1,20)]),n (.st 3 4 21)]
def r3:List AI:=[o 22 (.ld true 2 2),o 23 (.ld true 2 3),o 24 (.call 120 [22,23]),o 5 (.alloc 5 [(.bool false),.nil]),n (.st 2 5 24)]
def r4:List AI:=[o 26 (.ld true 2 2),o 27 (.ld true 2 5),o 28 (.call 119 [26,27]),m 25 28,o 29 (.ext 25 0),o 30 (.ext 25 1),o 31 (.ext 25 2),
 o 6 (.alloc 6 [(.bool false),.nil]),o 7 (.alloc 7 [(.bool false),.nil]),n (.st 2 6 29),n (.st 2 7 30),m 8 31]
def r5:List AI:=[o 33 (.ld true 2 3),o 34 (.ld true 2 5),o 35 (.call 119 [33,34]),m 32 35,o 36 (.ext 32 0),o 37 (.ext 32 1),o 38 (.ext 32 2),
 o 9 (.alloc 9 [(.bool false),.nil]),o 10 (.alloc 10 [(.bool false),.nil]),n (.st 2 9 36),n (.st 2 10 37),m 11 38]
def r6:List AI:=[o 39 (.fadr 9 0),o 40 (.ld false 1 39)]
def r7:List AI:=[o 41 (.ld true 2 6),o 42 (.call 114 [41]),n (.st 2 6 42)]
def r8:List AI:=[o 43 (.ld true 2 6),o 44 (.fadr 9 1),o 45 (.ld false 1 44),o 46 (.build [(.bool false),.nil,.nil] [(0,2,43),(2,1,45)]),n (.st 3 4 46)]
def c:ACode:=(.seq (.dr (.ops r0 false) [0,1] []) (.seq (.seq (.dr (.ops r1 false) [12,13,14,15,16,17,18] []) (.cond 19 (.seq (.dr (.ops r2 false) [2,3,19,20,21] []) .ret) .skip)) (.seq (.dr (.ops r3 false) [19,22,23,24] []) (.seq (.dr (.ops r4 false) [2,7,8,25,26,27,28,29,30,31] []) (.seq (.dr (.ops r5 false) [3,5,10,11,32,33,34,35,36,37,38] []) (.seq (.seq (.dr (.ops r6 false) [39] []) (.cond 40 (.dr (.ops r7 false) [40,41,42] []) .skip)) (.seq (.dr (.ops r8 false) [6,9,40,43,44,45,46] []) .ret)))))))
end ref03_reduce
def ref03_reduce:AFn:=⟨2,ref03_reduce.c,[.cell 4 true 3],false⟩
namespace ref03_parts
def r0:List AI:=[o 1 (.box 1 0),o 2 (.alloc 2 [(.bool false),.nil]),o 3 (.alloc 3 [(.bool false),.nil])]
def r1:List AI:=[o 5 (.fadr 1 2),o 6 (.ld false 1 5),o 7 (.call 101 [6]),o 8 (.build [(.bool false),.nil] [(1,1,7)]),o 4 (.alloc 4 [(.bool false),.nil]),n (.st 2 4 8)]
def r2:List AI:=[o 9 (.fadr 4 1),o 10 (.ld false 1 9),o 11 (.len 10),o 12 (.bin .eql 11 (k 0))]
def r3:List AI:=[o 13 (.build [(.bool false),.nil] []),o 14 (.bslice 14 1 [(.c (.int .u32 (1)))]),o 15 (.build [(.bool false),.nil] [(1,1,14)]),n (.st 2 2 13),
 n (.st 2 3 15)]
def r4:List AI:=[o 16 (.fadr 1 0),o 17 (.ld true 2 16),⟨some 18,.ld true 2 4,none,[2]⟩,n (.sto 2 2 2 17),n (.st 2 3 18)]
def c:ACode:=(.seq (.dr (.ops r0 false) [0] []) (.seq (.dr (.ops r1 false) [5,6,7,8] []) (.seq (.seq (.dr (.ops r2 false) [9,10,11] []) (.cond 12 (.seq (.dr (.ops r3 false) [1,4,12,13,14,15] []) .ret) .skip)) (.seq (.dr (.ops r4 true) [1,4,12,16,17,18] []) .ret))))
end ref03_parts
def ref03_parts:AFn:=⟨1,ref03_parts.c,[.cell 2 true 2,.cell 3 true 2],false⟩
namespace ref03_Of
def r0:List AI:=[o 2 (.alloc 2 [(.bool false),.nil,.nil])]
def r1:List AI:=[m 3 0,o 4 (.call 112 [3]),o 5 (.bslice 5 1 [(.c (.int .u32 (1)))]),o 6 (.build [(.bool false),.nil,.nil] [(0,2,4),(2,1,5)]),n (.st 3 2 6)]
def c:ACode:=(.seq (.ops r0 false) (.seq (.dr (.ops r1 false) [0,3,4,5,6] []) .ret))
end ref03_Of
def ref03_Of:AFn:=⟨1,ref03_Of.c,[.cell 2 true 3],false⟩
namespace ref03_Add
def r0:List AI:=[o 2 (.box 2 0),o 3 (.box 3 1),o 4 (.alloc 4 [(.bool false),.nil,.nil])]
def r1:List AI:=[o 10 (.ld true 3 2),o 11 (.call 122 [10]),m 9 11,o 12 (.ext 9 0),o 13 (.ext 9 1),o 5 (.alloc 5 [(.bool false),.nil]),
 o 6 (.alloc 6 [(.bool false),.nil]),n (.st 2 5 12),n (.st 2 6 13)]
def r2:List AI:=[o 15 (.ld true 3 3),o 16 (.call 122 [15]),m 14 16,o 17 (.ext 14 0),o 18 (.ext 14 1),o 7 (.alloc 7 [(.bool false),.nil]),
 o 8 (.alloc 8 [(.bool false),.nil]),n (.st 2 7 17),n (.st 2 8 18)]
def r3:List AI:=[o 19 (.ld true 2 5),o 20 (.ld true 2 8),o 21 (.call 118 [19,20]),o 22 (.ld true 2 7),o 23 (.ld true 2 6),o 24 (.call 118 [22,23]),
 o 25 (.call 115 [21,24]),o 26 (.ld true 2 6),o 27 (.ld true 2 8),o 28 (.call 118 [26,27]),o 29 (.call 121 [25,28]),n (.st 3 4 29)]
def c:ACode:=(.seq (.dr (.ops r0 false) [0,1] []) (.seq (.dr (.ops r1 false) [2,9,10,11,12,13] []) (.seq (.dr (.ops r2 false) [3,14,15,16,17,18] []) (.seq (.dr (.ops r3 true) [5,6,7,8,19,20,21,22,23,24,25,26,27,28,29] []) .ret))))
end ref03_Add
def ref03_Add:AFn:=⟨2,ref03_Add.c,[.cell 4 true 3],false⟩
namespace ref03_Compare
def r0:List AI:=[o 2 (.box 2 0),o 3 (.box 3 1),o 4 (.mov (k 0))]
def r1:List AI:=[o 10 (.ld true 3 2),o 11 (.call 122 [10]),m 9 11,o 12 (.ext 9 0),o 13 (.ext 9 1),o 5 (.alloc 5 [(.bool false),.nil]),
 o 6 (.alloc 6 [(.bool false),.nil]),n (.st 2 5 12),n (.st 2 6 13)]
def r2:List AI:=[o 15 (.ld true 3 3),o 16 (.call 122 [15]),m 14 16,o 17 (.ext 14 0),o 18 (.ext 14 1),o 7 (.alloc 7 [(.bool false),.nil]),
 o 8 (.alloc 8 [(.bool false),.nil]),n (.st 2 7 17),n (.st 2 8 18)]
def r3:List AI:=[o 19 (.ld true 2 5),o 20 (.ld true 2 8),o 21 (.call 118 [19,20]),o 22 (.ld true 2 7),o 23 (.ld true 2 6),o 24 (.call 118 [22,23]),
 o 25 (.call 117 [21,24]),m 4 25]
def c:ACode:=(.seq (.dr (.ops r0 false) [0,1,4] []) (.seq (.dr (.ops r1 false) [2,9,10,11,12,13] []) (.seq (.dr (.ops r2 false) [3,14,15,16,17,18] []) (.seq (.dr (.ops r3 true) [5,6,7,8,19,20,21,22,23,24,25] []) .ret))))
end ref03_Compare
def ref03_Compare:AFn:=⟨2,ref03_Compare.c,[.tmp 4],false⟩
namespace ref21_SameRats
def r0:List AI:=[o 4 (.mov (.c (.bool false)))]
def r1:List AI:=[m 6 0,o 7 (.len 6),m 8 1,o 9 (.len 8),o 10 (.bin .neq 7 9)]
def r2:List AI:=[o 4 (.mov (.c (.bool false)))]
def r3:List AI:=[o 5 (.mov (k 0))]
def r4:List AI:=[m 11 5,m 12 0,o 13 (.len 12),o 14 (.bin .lss 11 13)]
def r6:List AI:=[m 17 0,m 18 5,o 19 (.iadr none 3 17 18),o 20 (.ld true 3 19),m 21 1,m 22 5,o 23 (.iadr none 3 21 22),o 24 (.ld true 3 23),o 25 (.call 127 [20,24]),
 o 26 (.bin .neq 25 (k 0))]
def r7:List AI:=[o 4 (.mov (.c (.bool false)))]
def r5:List AI:=[m 15 5,o 16 (.bin .add 15 (k 1)),m 5 16]
def r8:List AI:=[o 4 (.mov (.c (.bool true)))]
def l1:ACode:=(.seq (.seq (.dr (.ops r4 false) [11,12,13] []) (.cond 14 .skip (.exit 0))) (.seq (.block 1 (.seq (.dr (.ops r6 true) [14,17,18,19,20,21,22,23,24,25] []) (.cond 26 (.seq (.dr (.ops r7 false) [0,1,5,26] []) .ret) .skip))) (.dr (.ops r5 false) [15,16,26] [])))
def c:ACode:=(.seq (.dr (.ops r0 false) [4] []) (.seq (.seq (.dr (.ops r1 false) [6,7,8,9] []) (.cond 10 (.seq (.dr (.ops r2 false) [0,1,10] []) .ret) .skip)) (.seq (.seq (.dr (.ops r3 false) [10] []) (.block 0 (.loop l1))) (.seq (.dr (.ops r8 false) [0,1,5,14] []) .ret))))
end ref21_SameRats
def ref21_SameRats:AFn:=⟨2,ref21_SameRats.c,[.tmp 4],false⟩
structure RefGLib (L:Lib):Prop where
 ref01_Trim:L 101=some F.ref01_Trim
 ref01_Compare:L 102=some F.ref01_Compare
 ref01_Add:L 103=some F.ref01_Add
 ref01_Sub:L 104=some F.ref01_Sub
 ref01_Mul:L 105=some F.ref01_Mul
 ref01_BitLen:L 106=some F.ref01_BitLen
 ref01_Shift:L 107=some F.ref01_Shift
 ref01_small:L 108=some F.ref01_small
 ref01_DivMod:L 109=some F.ref01_DivMod
 ref01_Gcd:L 110=some F.ref01_Gcd
 ref02_Trim:L 111=some F.ref02_Trim
 ref02_Of:L 112=some F.ref02_Of
 ref02_Sign:L 113=some F.ref02_Sign
 ref02_Neg:L 114=some F.ref02_Neg
 ref02_Add:L 115=some F.ref02_Add
 ref02_Sub:L 116=some F.ref02_Sub
 ref02_Compare:L 117=some F.ref02_Compare
 ref02_Mul:L 118=some F.ref02_Mul
 ref02_Div:L 119=some F.ref02_Div
 ref02_Gcd:L 120=some F.ref02_Gcd
 ref03_reduce:L 121=some F.ref03_reduce
 ref03_parts:L 122=some F.ref03_parts
 ref03_Of:L 124=some F.ref03_Of
 ref03_Add:L 126=some F.ref03_Add
 ref03_Compare:L 127=some F.ref03_Compare
 ref21_SameRats:L 129=some F.ref21_SameRats
end Go.Eng.F

namespace Go.Eng.F
open C
namespace network_Sound
def r0:List AI:=[o 1 (.box 1 0),o 2 (.mov (.c (.bool false)))]
def r1:List AI:=[o 6 (.fadr 1 0),o 7 (.ld false 1 6),o 8 (.len 7),m 3 8]
def r2:List AI:=[m 9 3,o 10 (.bin .gtr 9 (k 64)),m 11 10,g 12 11 false (.fadr 1 1),g 13 11 false (.ld false 1 12),g 14 11 false (.len 13),g 15 11 false (.mov 3),
 g 16 11 false (.bin .neq 14 15),o 17 (.pick 11 (.c (.bool true)) 16),m 18 17,g 19 18 false (.fadr 1 2),g 20 18 false (.ld false 1 19),
 g 21 18 false (.len 20),g 22 18 false (.mov 3),g 23 18 false (.bin .neq 21 22),o 24 (.pick 18 (.c (.bool true)) 23)]
def r3:List AI:=[o 2 (.mov (.c (.bool false)))]
def r4:List AI:=[o 25 (.fadr 1 0),o 26 (.ld false 1 25),o 27 (.len 26),o 28 (.mov (k 0))]
def r5:List AI:=[o 29 (.bin .lss 28 27)]
def r6:List AI:=[o 30 (.iadr none 1 26 28),o 31 (.ld false 1 30),m 5 31]
def r7:List AI:=[m 32 5,o 33 (.len 32),m 34 3,o 35 (.bin .neq 33 34)]
def r8:List AI:=[o 2 (.mov (.c (.bool false)))]
def r9:List AI:=[o 36 (.bin .add 28 (k 1)),m 28 36]
def r10:List AI:=[o 2 (.mov (.c (.bool true)))]
def l1:ACode:=(.seq (.ops r5 false) (.seq (.cond 29 .skip (.exit 0)) (.seq (.block 1 (.seq (.dr (.ops r6 false) [29,30,31] []) (.seq (.dr (.ops r7 false) [5,32,33,34] []) (.cond 35 (.seq (.dr (.ops r8 false) [3,26,27,28,35] []) .ret) .skip)))) (.dr (.ops r9 false) [35,36] []))))
def c:ACode:=(.seq (.dr (.ops r0 false) [0,2] []) (.seq (.dr (.ops r1 false) [6,7,8] []) (.seq (.seq (.dr (.ops r2 false) [9,10,11,12,13,14,15,16,17,18,19,20,21,22,23] []) (.cond 24 (.seq (.dr (.ops r3 false) [1,3,24] []) .ret) .skip)) (.seq (.seq (.dr (.ops r4 false) [1,24,25] []) (.block 0 (.loop l1))) (.seq (.dr (.ops r10 false) [3,26,27,28,29] []) .ret)))))
end network_Sound
def network_Sound:AFn:=⟨1,network_Sound.c,[.tmp 2],false⟩
namespace network_zeros
def r0:List AI:=[o 2 (.mov (.c .nil))]
def r1:List AI:=[m 5 0,o 6 (.mk 131006 3 56 [(.bool false),.nil,.nil] 5 5),m 3 6]
def r2:List AI:=[m 7 3,o 8 (.len 7),o 9 (.mov (k 0))]
def r3:List AI:=[o 10 (.bin .lss 9 8)]
def r4:List AI:=[m 11 9,m 4 11]
def r5:List AI:=[m 12 3,m 13 4,o 14 (.call 96 [(k 0)]),o 15 (.iadr none 3 12 13),n (.st 3 15 14)]
def r6:List AI:=[o 16 (.bin .add 9 (k 1)),m 9 16]
def r7:List AI:=[m 17 3,m 2 17]
def l1:ACode:=(.seq (.ops r3 false) (.seq (.cond 10 .skip (.exit 0)) (.seq (.block 1 (.seq (.dr (.ops r4 false) [10,11] []) (.dr (.ops r5 false) [4,12,13,14,15] []))) (.dr (.ops r6 false) [16] []))))
def c:ACode:=(.seq (.dr (.ops r0 false) [2] []) (.seq (.dr (.ops r1 false) [0,5,6] []) (.seq (.seq (.dr (.ops r2 false) [7] []) (.block 0 (.loop l1))) (.seq (.dr (.ops r7 false) [3,8,9,10,17] []) .ret))))
end network_zeros
def network_zeros:AFn:=⟨1,network_zeros.c,[.tmp 2],false⟩
namespace network_product
def r0:List AI:=[o 4 (.alloc 4 [(.bool false),.nil,.nil])]
def r1:List AI:=[o 8 (.call 96 [(k 0)]),o 5 (.alloc 5 [(.bool false),.nil,.nil]),n (.st 3 5 8)]
def r2:List AI:=[m 9 0,o 10 (.len 9),o 11 (.mov (k 0))]
def r3:List AI:=[o 12 (.bin .lss 11 10)]
def r4:List AI:=[m 13 11,o 14 (.iadr none 3 9 11),o 15 (.ld true 3 14),o 7 (.alloc 7 [(.bool false),.nil,.nil]),m 6 13,n (.st 3 7 15)]
def r5:List AI:=[o 16 (.ld true 3 7),o 17 (.call 97 [16]),o 18 (.bin .neq 17 (k 0)),m 19 18,g 20 19 true (.mov 1),g 21 19 true (.mov 6),g 22 19 true (.iadr none 3 20 21),
 g 23 19 true (.ld true 3 22),g 24 19 true (.call 97 [23]),g 25 19 true (.bin .neq 24 (k 0)),o 26 (.pick 19 25 (.c (.bool false)))]
def r6:List AI:=[o 27 (.ld true 3 5),o 28 (.ld true 3 7),m 29 1,m 30 6,o 31 (.iadr none 3 29 30),o 32 (.ld true 3 31),o 33 (.call 99 [28,32]),o 34 (.call 98 [27,33]),
 n (.st 3 5 34)]
def r7:List AI:=[o 35 (.bin .add 11 (k 1)),m 11 35]
def r8:List AI:=[o 36 (.ld true 3 5),n (.st 3 4 36)]
def l1:ACode:=(.seq (.ops r3 false) (.seq (.cond 12 .skip (.exit 0)) (.seq (.block 1 (.seq (.dr (.ops r4 false) [12,13,14,15] []) (.seq (.dr (.ops r5 false) [16,17,18,19,20,21,22,23,24,25] []) (.cond 26 (.dr (.ops r6 true) [6,7,26,27,28,29,30,31,32,33,34] []) .skip)))) (.dr (.ops r7 false) [6,7,26,35] []))))
def c:ACode:=(.seq (.ops r0 false) (.seq (.dr (.ops r1 false) [8] []) (.seq (.seq (.dr (.ops r2 false) [0] []) (.block 0 (.loop l1))) (.seq (.dr (.ops r8 false) [1,5,9,10,11,12,36] []) .ret))))
end network_product
def network_product:AFn:=⟨2,network_product.c,[.cell 4 true 3],false⟩
namespace network_Respond
def r0:List AI:=[o 3 (.box 133003 0),o 6 (.mov (.c .nil)),o 7 (.mov (.c .nil)),o 8 (.mov (k 0))]
def r1:List AI:=[o 18 (.ld true 6 3),o 19 (.call 130 [18]),o 20 (.un .not 19)]
def r2:List AI:=[o 6 (.mov (.c .nil)),o 7 (.mov (.c .nil)),o 8 (.mov (k 2))]
def r3:List AI:=[m 21 1,o 22 (.len 21),o 23 (.fadr 3 0),o 24 (.ld false 1 23),o 25 (.len 24),o 26 (.bin .neq 22 25)]
def r4:List AI:=[o 6 (.mov (.c .nil)),o 7 (.mov (.c .nil)),o 8 (.mov (k 1))]
def r5:List AI:=[m 27 2,o 28 (.len 27),o 29 (.bin .gtr 28 (k 4096))]
def r6:List AI:=[o 6 (.mov (.c .nil)),o 7 (.mov (.c .nil)),o 8 (.mov (k 4))]
def r7:List AI:=[m 30 1,o 31 (.len 30),o 32 (.mk 133032 3 56 [(.bool false),.nil,.nil] 31 31),m 9 32]
def r8:List AI:=[m 33 1,o 34 (.len 33),o 35 (.mov (k 0))]
def r9:List AI:=[o 36 (.bin .lss 35 34)]
def r10:List AI:=[m 37 35,o 38 (.iadr none 3 33 35),o 39 (.ld true 3 38),o 11 (.alloc 133011 [(.bool false),.nil,.nil]),m 10 37,n (.st 3 11 39)]
def r11:List AI:=[m 40 9,m 41 10,o 42 (.ld true 3 11),o 43 (.call 95 [42]),o 44 (.iadr none 3 40 41),n (.st 3 44 43)]
def r12:List AI:=[o 45 (.bin .add 35 (k 1)),m 35 45]
def r13:List AI:=[m 46 2,o 47 (.len 46),o 48 (.mk 133048 3 56 [(.bool false),.nil,.nil] (k 0) 47),m 12 48]
def r14:List AI:=[m 49 2,o 50 (.len 49),o 51 (.mov (k 0))]
def r15:List AI:=[o 52 (.bin .lss 51 50)]
def r16:List AI:=[o 53 (.iadr none 3 49 51),o 54 (.ld true 3 53),o 14 (.alloc 133014 [(.bool false),.nil,.nil]),n (.st 3 14 54)]
def r17:List AI:=[m 55 12,o 56 (.fadr 3 2),o 57 (.ld false 1 56),m 58 9,o 59 (.call 132 [57,58]),o 60 (.fadr 3 3),o 61 (.ld true 3 60),o 62 (.ld true 3 14),
 o 63 (.call 99 [61,62]),o 64 (.call 98 [59,63]),o 65 (.bslice 133065 3 [64]),o 66 (.app 133066 3 56 55 65),m 12 66]
def r18:List AI:=[m 67 9,o 68 (.len 67),o 69 (.mk 133069 3 56 [(.bool false),.nil,.nil] 68 68),m 15 69]
def r19:List AI:=[o 70 (.fadr 3 0),o 71 (.ld false 1 70),o 72 (.len 71),o 73 (.mov (k 0))]
def r20:List AI:=[o 74 (.bin .lss 73 72)]
def r21:List AI:=[m 75 73,o 76 (.iadr none 1 71 73),o 77 (.ld false 1 76),m 16 75,m 17 77]
def r22:List AI:=[m 78 15,m 79 16,m 80 17,m 81 9,o 82 (.call 132 [80,81]),o 83 (.fadr 3 1),o 84 (.ld false 1 83),m 85 16,o 86 (.iadr none 3 84 85),o 87 (.ld true 3 86),
 o 88 (.ld true 3 14),o 89 (.call 99 [87,88]),o 90 (.call 98 [82,89]),o 91 (.iadr none 3 78 79),n (.st 3 91 90)]
def r23:List AI:=[o 92 (.bin .add 73 (k 1)),m 73 92]
def r24:List AI:=[m 93 15,m 9 93]
def r25:List AI:=[o 94 (.bin .add 51 (k 1)),m 51 94]
def r26:List AI:=[m 95 12,m 96 9,m 6 95,m 7 96,o 8 (.mov (k 0))]
def l1:ACode:=(.seq (.ops r9 false) (.seq (.cond 36 .skip (.exit 0)) (.seq (.block 1 (.seq (.dr (.ops r10 false) [36,37,38,39] []) (.dr (.ops r11 false) [10,11,40,41,42,43,44] []))) (.dr (.ops r12 false) [45] []))))
def l3:ACode:=(.seq (.ops r20 false) (.seq (.cond 74 .skip (.exit 4)) (.seq (.block 5 (.seq (.dr (.ops r21 false) [74,75,76,77] []) (.dr (.ops r22 true) [16,17,78,79,80,81,82,83,84,85,86,87,88,89,90,91] []))) (.dr (.ops r23 false) [92] []))))
def l2:ACode:=(.seq (.ops r15 false) (.seq (.cond 52 .skip (.exit 2)) (.seq (.block 3 (.seq (.dr (.ops r16 false) [52,53,54] []) (.seq (.dr (.ops r17 true) [55,56,57,58,59,60,61,62,63,64,65,66] []) (.seq (.dr (.ops r18 false) [67,68,69] []) (.seq (.seq (.dr (.ops r19 false) [70] []) (.block 4 (.loop l3))) (.dr (.ops r24 false) [14,15,71,72,73,74,93] [])))))) (.dr (.ops r25 false) [94] []))))
def c:ACode:=(.seq (.dr (.ops r0 false) [0,6,7,8] []) (.seq (.seq (.dr (.ops r1 false) [18,19] []) (.cond 20 (.seq (.dr (.ops r2 false) [1,2,3,20] []) .ret) .skip)) (.seq (.seq (.dr (.ops r3 false) [20,21,22,23,24,25] []) (.cond 26 (.seq (.dr (.ops r4 false) [1,2,3,26] []) .ret) .skip)) (.seq (.seq (.dr (.ops r5 false) [26,27,28] []) (.cond 29 (.seq (.dr (.ops r6 false) [1,2,3,29] []) .ret) .skip)) (.seq (.dr (.ops r7 false) [29,30,31,32] []) (.seq (.seq (.dr (.ops r8 false) [1] []) (.block 0 (.loop l1))) (.seq (.dr (.ops r13 false) [33,34,35,36,46,47,48] []) (.seq (.seq (.dr (.ops r14 false) [2] []) (.block 2 (.loop l2))) (.seq (.dr (.ops r26 false) [3,9,12,49,50,51,52,95,96] []) .ret)))))))))
end network_Respond
def network_Respond:AFn:=⟨3,network_Respond.c,[.tmp 6,.tmp 7,.tmp 8],false⟩
structure SysGLib (L:Lib):Prop extends RatGLib L,RefGLib L where
 network_Sound:L 130=some F.network_Sound
 network_zeros:L 131=some F.network_zeros
 network_product:L 132=some F.network_product
 network_Respond:L 133=some F.network_Respond
end Go.Eng.F

namespace Go.Eng.F
open C
namespace network_spread
def r0:List AI:=[o 3 (.box 3 0),o 6 (.mov (.c .nil))]
def r1:List AI:=[o 16 (.fadr 3 8),o 17 (.ld false 1 16),o 18 (.bin .add (k 1) 17),o 19 (.callr 19 131 [18]),m 7 19]
def r2:List AI:=[m 20 1,o 21 (.bin .geq 20 (k 0))]
def r3:List AI:=[m 22 7,m 23 1,o 24 (.call 96 [(k 1)]),o 25 (.iadr none 3 22 23),n (.st 3 25 24)]
def r4:List AI:=[o 26 (.fadr 3 4),o 27 (.fadr 26 1),o 28 (.ld false 1 27),o 29 (.bin .shl (k 1) 28),o 30 (.call 96 [29]),o 8 (.alloc 8 [(.bool false),.nil,.nil]),
 n (.st 3 8 30)]
def r5:List AI:=[o 31 (.fadr 3 9),o 32 (.ld false 1 31),o 33 (.len 32),o 34 (.mov (k 0))]
def r6:List AI:=[o 35 (.bin .lss 34 33)]
def r7:List AI:=[m 36 34,o 37 (.iadr none 1 32 34),o 38 (.ld true 1 37),o 10 (.alloc 10 [.nil]),m 9 36,n (.st 1 10 38)]
def r8:List AI:=[o 39 (.call 96 [(k 0)]),o 11 (.alloc 11 [(.bool false),.nil,.nil]),n (.st 3 11 39)]
def r9:List AI:=[o 40 (.fadr 10 0),o 41 (.ld false 1 40),o 42 (.len 41),o 43 (.mov (k 0))]
def r10:List AI:=[o 44 (.bin .lss 43 42)]
def r11:List AI:=[o 45 (.iadr none 2 41 43),o 46 (.ld true 2 45),o 13 (.alloc 13 [z,z]),n (.st 2 13 46)]
def r12:List AI:=[o 47 (.fadr 13 1),o 48 (.ld false 1 47),o 49 (.bin .neq 48 (k 0)),m 50 49,g 51 50 true (.mov 7),g 52 50 true (.fadr 13 0),g 53 50 true (.ld false 1 52),
 g 54 50 true (.iadr none 3 51 53),g 55 50 true (.ld true 3 54),g 56 50 true (.call 97 [55]),g 57 50 true (.bin .neq 56 (k 0)),
 o 58 (.pick 50 57 (.c (.bool false)))]
def r13:List AI:=[o 59 (.ld true 3 11),o 60 (.fadr 13 1),o 61 (.ld false 1 60),o 62 (.call 96 [61]),m 63 7,o 64 (.fadr 13 0),o 65 (.ld false 1 64),
 o 66 (.iadr none 3 63 65),o 67 (.ld true 3 66),o 68 (.call 99 [62,67]),o 69 (.call 98 [59,68]),n (.st 3 11 69)]
def r14:List AI:=[o 70 (.bin .add 43 (k 1)),m 43 70]
def r15:List AI:=[o 72 (.ld true 3 11),o 73 (.ld true 3 8),o 74 (.call 100 [72,73]),m 71 74,o 75 (.ext 71 0),o 76 (.ext 71 1),o 14 (.alloc 14 [(.bool false),.nil,.nil]),
 n (.st 3 14 75),m 15 76]
def r16:List AI:=[m 77 9,m 78 2,o 79 (.bin .eql 77 78)]
def r17:List AI:=[o 80 (.ld true 3 14),o 81 (.call 96 [(k 1)]),o 82 (.call 98 [80,81]),n (.st 3 14 82)]
def r18:List AI:=[m 83 7,o 84 (.ld true 3 14),o 85 (.bslice 85 3 [84]),o 86 (.app 86 3 56 83 85),m 7 86]
def r19:List AI:=[o 87 (.bin .add 34 (k 1)),m 34 87]
def r20:List AI:=[m 88 7,m 6 88]
def l2:ACode:=(.seq (.ops r10 false) (.seq (.cond 44 .skip (.exit 2)) (.seq (.block 3 (.seq (.dr (.ops r11 false) [44,45,46] []) (.seq (.dr (.ops r12 false) [47,48,49,50,51,52,53,54,55,56,57] []) (.cond 58 (.dr (.ops r13 true) [13,58,59,60,61,62,63,64,65,66,67,68,69] []) .skip)))) (.dr (.ops r14 false) [13,58,70] []))))
def l1:ACode:=(.seq (.ops r6 false) (.seq (.cond 35 .skip (.exit 0)) (.seq (.block 1 (.seq (.dr (.ops r7 false) [35,36,37,38] []) (.seq (.dr (.ops r8 false) [39] []) (.seq (.seq (.dr (.ops r9 false) [10,40] []) (.block 2 (.loop l2))) (.seq (.dr (.ops r15 false) [11,15,41,42,43,44,71,72,73,74,75,76] []) (.seq (.seq (.dr (.ops r16 false) [9,77,78] []) (.cond 79 (.dr (.ops r17 true) [79,80,81,82] []) .skip)) (.dr (.ops r18 false) [14,79,83,84,85,86] []))))))) (.dr (.ops r19 false) [87] []))))
def c:ACode:=(.seq (.dr (.ops r0 false) [0,6] []) (.seq (.dr (.ops r1 false) [16,17,18,19] []) (.seq (.seq (.dr (.ops r2 false) [20] []) (.cond 21 (.dr (.ops r3 false) [1,21,22,23,24,25] []) .skip)) (.seq (.dr (.ops r4 false) [1,21,26,27,28,29,30] []) (.seq (.seq (.dr (.ops r5 false) [3,31] []) (.block 0 (.loop l1))) (.seq (.dr (.ops r20 false) [2,7,8,32,33,34,35,88] []) .ret))))))
end network_spread
def network_spread:AFn:=⟨3,network_spread.c,[.tmp 6],false⟩
namespace network_zero
def r0:List AI:=[o 2 (.alloc 145002 [.nil,.nil,.nil,(.bool false),.nil,.nil])]
def r1:List AI:=[m 5 0,o 6 (.mk 145006 1 24 [.nil] 5 5),m 7 0,⟨some 8,.callr 145008 131 [7],none,[145006,145003]⟩,m 9 0,
 ⟨some 10,.callr 145010 131 [9],none,[145006,145003]⟩,⟨some 11,.call 96 [(k 0)],none,[145006,145003]⟩,
 o 12 (.build [.nil,.nil,.nil,(.bool false),.nil,.nil] [(0,1,6),(1,1,8),(2,1,10),(3,3,11)]),
 o 3 (.alloc 145003 [.nil,.nil,.nil,(.bool false),.nil,.nil]),n (.st 6 3 12)]
def r2:List AI:=[o 13 (.fadr 3 0),o 14 (.ld false 1 13),o 15 (.len 14),o 16 (.mov (k 0))]
def r3:List AI:=[o 17 (.bin .lss 16 15)]
def r4:List AI:=[m 18 16,m 4 18]
def r5:List AI:=[o 19 (.fadr 3 0),⟨some 20,.ld false 1 19,none,[145023]⟩,m 21 4,m 22 0,o 23 (.callr 145023 131 [22]),o 24 (.iadr none 1 20 21),n (.st 1 24 23)]
def r6:List AI:=[o 25 (.bin .add 16 (k 1)),m 16 25]
def r7:List AI:=[o 26 (.ld true 6 3),n (.st 6 2 26)]
def l1:ACode:=(.seq (.ops r3 false) (.seq (.cond 17 .skip (.exit 0)) (.seq (.block 1 (.seq (.dr (.ops r4 false) [17,18] []) (.dr (.ops r5 true) [4,19,20,21,22,23,24] []))) (.dr (.ops r6 false) [25] []))))
def c:ACode:=(.seq (.ops r0 false) (.seq (.dr (.ops r1 true) [5,6,7,8,9,10,11,12] []) (.seq (.seq (.dr (.ops r2 false) [13,14] []) (.block 0 (.loop l1))) (.seq (.dr (.ops r7 false) [0,3,15,16,17,26] []) .ret))))
end network_zero
def network_zero:AFn:=⟨1,network_zero.c,[.cell 2 true 6],false⟩
namespace network_Linear
def r0:List AI:=[o 1 (.box 146001 0),o 2 (.alloc 146002 [.nil,.nil,.nil,(.bool false),.nil,.nil]),o 3 (.mov (k 0))]
def r1:List AI:=[o 11 (.ld true 12 1),o 12 (.call 21 [11]),o 13 (.un .not 12)]
def r2:List AI:=[o 14 (.build [.nil,.nil,.nil,(.bool false),.nil,.nil] []),n (.st 6 2 14),o 3 (.mov (k 2))]
def r3:List AI:=[o 15 (.fadr 1 8),o 16 (.ld false 1 15),o 17 (.bin .add 16 (k 1)),o 18 (.mk 146018 1 24 [.nil] 17 17),m 4 18]
def r4:List AI:=[m 19 4,o 20 (.len 19),o 21 (.mov (k 0))]
def r5:List AI:=[o 22 (.bin .lss 21 20)]
def r6:List AI:=[m 23 21,m 5 23]
def r7:List AI:=[m 24 4,m 25 5,o 26 (.ld true 12 1),m 27 5,o 28 (.call 144 [26,27,(k (-1))]),o 29 (.iadr none 1 24 25),n (.st 1 29 28)]
def r8:List AI:=[o 30 (.bin .add 21 (k 1)),m 21 30]
def r9:List AI:=[o 31 (.fadr 1 8),o 32 (.ld false 1 31),o 33 (.calli 145 [32]),o 6 (.alloc 146006 [.nil,.nil,.nil,(.bool false),.nil,.nil]),n (.st 6 6 33)]
def r10:List AI:=[o 34 (.fadr 1 10),o 35 (.ld false 1 34),o 36 (.len 35),o 37 (.mov (k 0))]
def r11:List AI:=[o 38 (.bin .lss 37 36)]
def r12:List AI:=[m 39 37,o 40 (.iadr none 1 35 37),o 41 (.ld false 1 40),m 7 39,m 8 41]
def r13:List AI:=[o 42 (.fadr 1 8),o 43 (.ld false 1 42),o 44 (.mov (k 0))]
def r14:List AI:=[o 45 (.bin .lss 44 43)]
def r15:List AI:=[m 46 44,m 9 46]
def r16:List AI:=[o 47 (.fadr 6 0),o 48 (.ld false 1 47),m 49 7,o 50 (.iadr none 1 48 49),o 51 (.ld false 1 50),m 52 9,m 53 4,m 54 9,o 55 (.bin .add 54 (k 1)),
 o 56 (.iadr none 1 53 55),o 57 (.ld false 1 56),m 58 8,o 59 (.iadr none 3 57 58),o 60 (.ld true 3 59),o 61 (.call 95 [60]),o 62 (.iadr none 3 51 52),
 n (.st 3 62 61)]
def r17:List AI:=[o 63 (.bin .add 44 (k 1)),m 44 63]
def r18:List AI:=[o 64 (.fadr 6 1),o 65 (.ld false 1 64),m 66 7,m 67 4,o 68 (.iadr none 1 67 (k 0)),o 69 (.ld false 1 68),m 70 8,o 71 (.iadr none 3 69 70),
 o 72 (.ld true 3 71),o 73 (.call 95 [72]),o 74 (.iadr none 3 65 66),n (.st 3 74 73)]
def r19:List AI:=[o 75 (.bin .add 37 (k 1)),m 37 75]
def r20:List AI:=[o 76 (.fadr 1 8),o 77 (.ld false 1 76),o 78 (.mov (k 0))]
def r21:List AI:=[o 79 (.bin .lss 78 77)]
def r22:List AI:=[m 80 78,m 10 80]
def r23:List AI:=[o 81 (.fadr 6 2),o 82 (.ld false 1 81),m 83 10,m 84 4,m 85 10,o 86 (.bin .add 85 (k 1)),o 87 (.iadr none 1 84 86),o 88 (.ld false 1 87),
 o 89 (.fadr 1 11),o 90 (.ld false 1 89),o 91 (.iadr none 3 88 90),o 92 (.ld true 3 91),o 93 (.call 95 [92]),o 94 (.iadr none 3 82 83),n (.st 3 94 93)]
def r24:List AI:=[o 95 (.bin .add 78 (k 1)),m 78 95]
def r25:List AI:=[m 96 4,o 97 (.iadr none 1 96 (k 0)),o 98 (.ld false 1 97),o 99 (.fadr 1 11),o 100 (.ld false 1 99),o 101 (.iadr none 3 98 100),o 102 (.ld true 3 101),
 o 103 (.call 95 [102]),o 104 (.fadr 6 3),n (.st 3 104 103)]
def r26:List AI:=[o 105 (.ld true 6 6),n (.st 6 2 105),o 3 (.mov (k 0))]
def l1:ACode:=(.seq (.ops r5 false) (.seq (.cond 22 .skip (.exit 0)) (.seq (.block 1 (.seq (.dr (.ops r6 false) [22,23] []) (.dr (.ops r7 false) [5,24,25,26,27,28,29] []))) (.dr (.ops r8 false) [30] []))))
def l3:ACode:=(.seq (.ops r14 false) (.seq (.cond 45 .skip (.exit 4)) (.seq (.block 5 (.seq (.dr (.ops r15 false) [45,46] []) (.dr (.ops r16 true) [9,47,48,49,50,51,52,53,54,55,56,57,58,59,60,61,62] []))) (.dr (.ops r17 false) [63] []))))
def l2:ACode:=(.seq (.ops r11 false) (.seq (.cond 38 .skip (.exit 2)) (.seq (.block 3 (.seq (.dr (.ops r12 false) [38,39,40,41] []) (.seq (.seq (.dr (.ops r13 false) [42] []) (.block 4 (.loop l3))) (.dr (.ops r18 true) [7,8,43,44,45,64,65,66,67,68,69,70,71,72,73,74] [])))) (.dr (.ops r19 false) [75] []))))
def l4:ACode:=(.seq (.ops r21 false) (.seq (.cond 79 .skip (.exit 6)) (.seq (.block 7 (.seq (.dr (.ops r22 false) [79,80] []) (.dr (.ops r23 true) [10,81,82,83,84,85,86,87,88,89,90,91,92,93,94] []))) (.dr (.ops r24 false) [95] []))))
def c:ACode:=(.seq (.dr (.ops r0 false) [0,3] []) (.seq (.seq (.dr (.ops r1 false) [11,12] []) (.cond 13 (.seq (.dr (.ops r2 false) [1,13,14] []) .ret) .skip)) (.seq (.dr (.ops r3 false) [13,15,16,17,18] []) (.seq (.seq (.dr (.ops r4 false) [19] []) (.block 0 (.loop l1))) (.seq (.dr (.ops r9 false) [20,21,22,31,32,33] []) (.seq (.seq (.dr (.ops r10 false) [34] []) (.block 2 (.loop l2))) (.seq (.seq (.dr (.ops r20 false) [35,36,37,38,76] []) (.block 6 (.loop l4))) (.seq (.dr (.ops r25 true) [1,4,77,78,79,96,97,98,99,100,101,102,103,104] []) (.seq (.dr (.ops r26 false) [6,105] []) .ret)))))))))
end network_Linear
def network_Linear:AFn:=⟨1,network_Linear.c,[.cell 2 true 6,.tmp 3],false⟩
structure LinGLib (L:Lib):Prop extends SysGLib L,NetLib L where
 network_spread:L 144=some F.network_spread
 network_zero:L 145=some F.network_zero
 network_Linear:L 146=some F.network_Linear
end Go.Eng.F

namespace Go.Eng.F
open C
namespace world_Ints
def r0:List AI:=[o 2 (.mov (.c .nil))]
def r1:List AI:=[o 3 (.vrow 3 3)]
def r2:List AI:=[o 4 (.mov (k 0))]
def r3:List AI:=[m 5 4,m 6 0,o 7 (.len 6),o 8 (.bin .lss 5 7)]
def r5:List AI:=[m 11 3,m 12 0,m 13 4,o 14 (.iadr none 1 12 13),o 15 (.ld false 1 14),o 16 (.call 124 [15]),o 17 (.bslice 17 3 [16]),o 18 (.app 18 3 56 11 17),m 3 18]
def r4:List AI:=[m 9 4,o 10 (.bin .add 9 (k 1)),m 4 10]
def r6:List AI:=[m 19 3,m 2 19]
def l1:ACode:=(.seq (.seq (.dr (.ops r3 false) [5,6,7] []) (.cond 8 .skip (.exit 0))) (.seq (.block 1 (.dr (.ops r5 false) [8,11,12,13,14,15,16,17,18] [])) (.dr (.ops r4 false) [9,10] [])))
def c:ACode:=(.seq (.dr (.ops r0 false) [2] []) (.seq (.ops r1 false) (.seq (.seq (.ops r2 false) (.block 0 (.loop l1))) (.seq (.dr (.ops r6 false) [0,3,4,8,19] []) .ret))))
end world_Ints
def world_Ints:AFn:=⟨1,world_Ints.c,[.tmp 2],false⟩
structure IntsGLib (L:Lib):Prop extends RefGLib L where
 world_Ints:L 147=some F.world_Ints
end Go.Eng.F

namespace Go.Eng.F
open C
namespace world_Raw_Net
def r0:List AI:=[o 1 (.box 1 0),o 2 (.alloc 2 [z,z,z,z,z,z,z,z,z,.nil,.nil,z])]
def r1:List AI:=[o 10 (.fadr 1 0),⟨some 11,.ld false 1 10,none,[3]⟩,⟨some 12,.call 37 [11],none,[3]⟩,o 13 (.fadr 1 1),⟨some 14,.ld false 1 13,none,[3]⟩,
 ⟨some 15,.call 38 [14],none,[3]⟩,o 16 (.fadr 1 2),⟨some 17,.ld false 1 16,none,[3]⟩,⟨some 18,.call 34 [17,(k 4)],none,[3]⟩,
 o 19 (.build [z,z,z,z,z,z,z,z,z,.nil,.nil,z] [(0,4,12),(4,4,15),(8,1,18)]),o 3 (.alloc 3 [z,z,z,z,z,z,z,z,z,.nil,.nil,z]),
 n (.st 12 3 19)]
def r2:List AI:=[o 20 (.fadr 3 4),o 21 (.fadr 20 1),o 22 (.ld false 1 21),o 23 (.conv .u64 22),o 24 (.bin .shl (k 1) 23),m 4 24]
def r3:List AI:=[o 5 (.mov (k 0))]
def r4:List AI:=[m 25 5,o 26 (.fadr 1 3),o 27 (.ld false 1 26),o 28 (.len 27),o 29 (.bin .lss 25 28),m 30 29,g 31 30 true (.mov 5),g 32 30 true (.bin .lss 31 (k 4)),
 o 33 (.pick 30 32 (.c (.bool false)))]
def r6:List AI:=[o 36 (.build [.nil] []),o 6 (.alloc 6 [.nil]),n (.st 1 6 36)]
def r7:List AI:=[o 7 (.mov (k 0))]
def r8:List AI:=[m 37 7,o 38 (.fadr 1 3),o 39 (.ld false 1 38),m 40 5,o 41 (.iadr none 2 39 40),o 42 (.fadr 41 0),o 43 (.ld false 1 42),o 44 (.len 43),
 o 45 (.bin .lss 37 44),m 46 45,g 47 46 true (.mov 7),g 48 46 true (.bin .lss 47 (k 4)),o 49 (.pick 46 48 (.c (.bool false)))]
def r10:List AI:=[o 52 (.fadr 1 3),⟨some 53,.ld false 1 52,none,[8]⟩,m 54 5,o 55 (.iadr none 2 53 54),o 56 (.fadr 55 0),⟨some 57,.ld false 1 56,none,[8]⟩,m 58 7,
 o 59 (.iadr none 1 57 58),⟨some 60,.ld false 1 59,none,[8]⟩,o 61 (.fadr 3 8),⟨some 62,.ld false 1 61,none,[8]⟩,o 63 (.bin .add (k 1) 62),m 64 5,
 o 65 (.bin .add 63 64),⟨some 66,.call 34 [60,65],none,[8]⟩,o 67 (.fadr 3 4),⟨some 68,.ld true 4 67,none,[8]⟩,o 69 (.fadr 1 3),
 ⟨some 70,.ld false 1 69,none,[8]⟩,m 71 5,o 72 (.iadr none 2 70 71),o 73 (.fadr 72 1),⟨some 74,.ld false 1 73,none,[8]⟩,m 75 7,
 o 76 (.bin .add 75 (k 1)),⟨some 77,.call 39 [68,74,76],none,[8]⟩,m 78 7,o 79 (.iadr none 1 77 78),⟨some 80,.ld false 1 79,none,[8]⟩,
 o 81 (.build [z,z] [(0,1,66),(1,1,80)]),o 8 (.alloc 8 [z,z]),n (.st 2 8 81)]
def r11:List AI:=[o 82 (.fadr 1 6),o 83 (.ld false 1 82)]
def r12:List AI:=[m 84 4,o 85 (.fadr 1 3),o 86 (.ld false 1 85),m 87 5,o 88 (.iadr none 2 86 87),o 89 (.fadr 88 1),o 90 (.ld false 1 89),m 91 7,o 92 (.call 35 [90,91]),
 o 93 (.call 34 [92,(k 3)]),o 94 (.bin .sub 93 (k 1)),o 95 (.bin .mul 84 94),o 96 (.fadr 8 1),n (.st 1 96 95)]
def r13:List AI:=[o 97 (.fadr 6 0),o 98 (.ld false 1 97),o 99 (.ld true 2 8),o 100 (.bslice 100 2 [99]),o 101 (.app 101 2 16 98 100),o 102 (.fadr 6 0),n (.st 1 102 101)]
def r9:List AI:=[m 50 7,o 51 (.bin .add 50 (k 1)),m 7 51]
def r14:List AI:=[o 103 (.fadr 3 9),o 104 (.ld false 1 103),o 105 (.ld true 1 6),o 106 (.bslice 106 1 [105]),o 107 (.app 107 1 24 104 106),o 108 (.fadr 3 9),
 n (.st 1 108 107)]
def r5:List AI:=[m 34 5,o 35 (.bin .add 34 (k 1)),m 5 35]
def r15:List AI:=[o 9 (.mov (k 0))]
def r16:List AI:=[m 109 9,o 110 (.fadr 3 8),o 111 (.ld false 1 110),o 112 (.bin .lss 109 111)]
def r18:List AI:=[o 115 (.fadr 3 10),⟨some 116,.ld false 1 115,none,[129]⟩,o 117 (.fadr 1 4),o 118 (.ld false 1 117),m 119 9,o 120 (.call 35 [118,119]),
 o 121 (.fadr 3 8),o 122 (.ld false 1 121),o 123 (.bin .add (k 1) 122),o 124 (.fadr 3 9),o 125 (.ld false 1 124),o 126 (.len 125),
 o 127 (.bin .add 123 126),o 128 (.call 34 [120,127]),o 129 (.bslice 129 1 [128]),o 130 (.app 130 1 8 116 129),o 131 (.fadr 3 10),n (.st 1 131 130)]
def r17:List AI:=[m 113 9,o 114 (.bin .add 113 (k 1)),m 9 114]
def r19:List AI:=[o 132 (.fadr 1 5),o 133 (.ld false 1 132),o 134 (.fadr 3 8),o 135 (.ld false 1 134),o 136 (.bin .add (k 1) 135),o 137 (.fadr 3 9),o 138 (.ld false 1 137),
 o 139 (.len 138),o 140 (.bin .add 136 139),o 141 (.call 34 [133,140]),o 142 (.fadr 3 11),n (.st 1 142 141)]
def r20:List AI:=[o 143 (.ld true 12 3),n (.st 12 2 143)]
def l2:ACode:=(.seq (.seq (.dr (.ops r8 false) [37,38,39,40,41,42,43,44,45,46,47,48] []) (.cond 49 .skip (.exit 2))) (.seq (.block 3 (.seq (.dr (.ops r10 true) [49,52,53,54,55,56,57,58,59,60,61,62,63,64,65,66,67,68,69,70,71,72,73,74,75,76,77,78,79,80,81] []) (.seq (.seq (.dr (.ops r11 false) [82] []) (.cond 83 (.dr (.ops r12 false) [83,84,85,86,87,88,89,90,91,92,93,94,95,96] []) .skip)) (.dr (.ops r13 false) [8,83,97,98,99,100,101,102] [])))) (.dr (.ops r9 false) [50,51] [])))
def l1:ACode:=(.seq (.seq (.dr (.ops r4 false) [25,26,27,28,29,30,31,32] []) (.cond 33 .skip (.exit 0))) (.seq (.block 1 (.seq (.dr (.ops r6 false) [33,36] []) (.seq (.seq (.ops r7 false) (.block 2 (.loop l2))) (.dr (.ops r14 false) [6,7,49,103,104,105,106,107,108] [])))) (.dr (.ops r5 false) [34,35] [])))
def l3:ACode:=(.seq (.seq (.dr (.ops r16 false) [109,110,111] []) (.cond 112 .skip (.exit 4))) (.seq (.block 5 (.dr (.ops r18 true) [112,115,116,117,118,119,120,121,122,123,124,125,126,127,128,129,130,131] [])) (.dr (.ops r17 false) [113,114] [])))
def c:ACode:=(.seq (.dr (.ops r0 false) [0] []) (.seq (.dr (.ops r1 true) [10,11,12,13,14,15,16,17,18,19] []) (.seq (.dr (.ops r2 false) [20,21,22,23,24] []) (.seq (.seq (.ops r3 false) (.block 0 (.loop l1))) (.seq (.seq (.dr (.ops r15 false) [4,5,33] []) (.block 4 (.loop l3))) (.seq (.dr (.ops r19 false) [1,9,112,132,133,134,135,136,137,138,139,140,141,142] []) (.seq (.dr (.ops r20 false) [3,143] []) .ret)))))))
end world_Raw_Net
def world_Raw_Net:AFn:=⟨1,world_Raw_Net.c,[.cell 2 true 12],false⟩
namespace network_Run
def r0:List AI:=[o 3 (.box 3 0),o 6 (.mov (.c .nil)),o 7 (.mov (.c .nil)),o 8 (.mov (k 0)),o 9 (.mov (k 0))]
def r1:List AI:=[o 18 (.ld true 12 3),o 19 (.call 21 [18]),o 20 (.un .not 19)]
def r2:List AI:=[o 6 (.mov (.c .nil)),o 7 (.mov (.c .nil)),o 8 (.mov (k 0)),o 9 (.mov (k 2))]
def r3:List AI:=[m 21 2,o 22 (.len 21),o 23 (.bin .gtr 22 (k 4096))]
def r4:List AI:=[o 6 (.mov (.c .nil)),o 7 (.mov (.c .nil)),o 8 (.mov (k 0)),o 9 (.mov (k 4))]
def r5:List AI:=[o 24 (.ld true 12 3),m 25 1,m 26 2,o 27 (.call 22 [24,25,26]),m 10 27]
def r6:List AI:=[m 28 10,o 29 (.bin .neq 28 (k 0))]
def r7:List AI:=[m 30 10,o 6 (.mov (.c .nil)),o 7 (.mov (.c .nil)),o 8 (.mov (k 0)),m 9 30]
def r8:List AI:=[m 31 1,o 32 (.len 31),o 33 (.mk 33 1 8 [z] 32 32),m 11 33]
def r9:List AI:=[m 34 11,m 35 1,o 36 (.cpy 1 34 35)]
def r10:List AI:=[m 37 2,o 38 (.len 37),o 39 (.mk 39 1 8 [z] (k 0) 38),m 12 39]
def r11:List AI:=[o 13 (.mov (k 0))]
def r12:List AI:=[m 40 2,o 41 (.len 40),o 42 (.mov (k 0))]
def r13:List AI:=[o 43 (.bin .lss 42 41)]
def r14:List AI:=[o 44 (.iadr none 1 40 42),o 45 (.ld false 1 44),m 15 45]
def r15:List AI:=[o 47 (.ld true 12 3),m 48 11,m 49 15,o 50 (.call 23 [47,48,49]),m 46 50,o 51 (.ext 46 0),o 52 (.ext 46 1),m 16 51,m 17 52]
def r16:List AI:=[m 53 11,o 54 (.ld true 12 3),m 55 16,o 56 (.call 25 [54,55]),o 57 (.cpy 1 53 56)]
def r17:List AI:=[m 58 12,m 59 16,o 60 (.fadr 3 11),o 61 (.ld false 1 60),o 62 (.iadr none 1 59 61),o 63 (.ld false 1 62),o 64 (.bslice 64 1 [63]),
 o 65 (.app 65 1 8 58 64),m 12 65]
def r18:List AI:=[m 66 17]
def r19:List AI:=[m 67 13,o 68 (.bin .add 67 (k 1)),m 13 68]
def r20:List AI:=[o 69 (.bin .add 42 (k 1)),m 42 69]
def r21:List AI:=[m 70 12,m 71 11,m 72 13,m 6 70,m 7 71,m 8 72,o 9 (.mov (k 0))]
def l1:ACode:=(.seq (.ops r13 false) (.seq (.cond 43 .skip (.exit 0)) (.seq (.block 1 (.seq (.dr (.ops r14 false) [43,44,45] []) (.seq (.dr (.ops r15 false) [15,46,47,48,49,50,51,52] []) (.seq (.dr (.ops r16 false) [53,54,55,56,57] []) (.seq (.dr (.ops r17 false) [16,58,59,60,61,62,63,64,65] []) (.seq (.dr (.ops r18 false) [17] []) (.cond 66 (.dr (.ops r19 false) [66,67,68] []) .skip))))))) (.dr (.ops r20 false) [66,69] []))))
def c:ACode:=(.seq (.dr (.ops r0 false) [0,6,7,8,9] []) (.seq (.seq (.dr (.ops r1 false) [18,19] []) (.cond 20 (.seq (.dr (.ops r2 false) [1,2,3,20] []) .ret) .skip)) (.seq (.seq (.dr (.ops r3 false) [20,21,22] []) (.cond 23 (.seq (.dr (.ops r4 false) [1,2,3,23] []) .ret) .skip)) (.seq (.seq (.dr (.ops r5 false) [23,24,25,26,27] []) (.seq (.dr (.ops r6 false) [28] []) (.cond 29 (.seq (.dr (.ops r7 false) [1,2,3,10,29,30] []) .ret) .skip))) (.seq (.dr (.ops r8 false) [10,29,31,32,33] []) (.seq (.dr (.ops r9 false) [1,34,35,36] []) (.seq (.dr (.ops r10 false) [37,38,39] []) (.seq (.ops r11 false) (.seq (.seq (.dr (.ops r12 false) [2] []) (.block 0 (.loop l1))) (.seq (.dr (.ops r21 false) [3,11,12,13,40,41,42,43,70,71,72] []) .ret))))))))))
end network_Run
def network_Run:AFn:=⟨3,network_Run.c,[.tmp 6,.tmp 7,.tmp 8,.tmp 9],false⟩
structure RunGLib (L:Lib):Prop extends NetLib L,WorldLib L where
 world_Raw_Net:L 42=some F.world_Raw_Net
 network_Run:L 43=some F.network_Run
end Go.Eng.F

namespace Go.Eng.F
open C
namespace rational_flip
def r0:List AI:=[o 1 (.box 1 0),o 2 (.alloc 2 [(.bool false),.nil,.nil])]
def r1:List AI:=[o 3 (.fadr 1 0),o 4 (.fadr 3 0),o 5 (.ld false 1 4),o 6 (.un .not 5),o 7 (.fadr 1 0),o 8 (.fadr 7 1),o 9 (.ld false 1 8),
 o 10 (.build [(.bool false),.nil] [(0,1,6),(1,1,9)]),o 11 (.fadr 1 2),o 12 (.ld false 1 11),
 o 13 (.build [(.bool false),.nil,.nil] [(0,2,10),(2,1,12)]),n (.st 3 2 13)]
def c:ACode:=(.seq (.dr (.ops r0 false) [0] []) (.seq (.dr (.ops r1 false) [1,3,4,5,6,7,8,9,10,11,12,13] []) .ret))
end rational_flip
def rational_flip:AFn:=⟨1,rational_flip.c,[.cell 2 true 3],false⟩
namespace rational_Sub
def r0:List AI:=[o 2 (.box 2 0),o 3 (.box 3 1),o 4 (.alloc 4 [(.bool false),.nil,.nil])]
def r1:List AI:=[o 5 (.ld true 3 2),o 6 (.ld true 3 3),o 7 (.callq 149 [6]),o 8 (.call 98 [5,7]),n (.st 3 4 8)]
def c:ACode:=(.seq (.dr (.ops r0 false) [0,1] []) (.seq (.dr (.ops r1 true) [2,3,5,6,7,8] []) .ret))
end rational_Sub
def rational_Sub:AFn:=⟨2,rational_Sub.c,[.cell 4 true 3],false⟩
structure RatHLib (L:Lib):Prop extends RatGLib L where
 rational_flip:L 149=some F.rational_flip
 rational_Sub:L 150=some F.rational_Sub
end Go.Eng.F

namespace Go.Eng.F
open C
structure RefHLib (L:Lib):Prop extends RefGLib L where
end Go.Eng.F
