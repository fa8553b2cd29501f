/-
  Functions of the program, as the abstract machine reads them (group RefG). Written by a program (gen.py) off the model's own reading of the translation; the seat's check ties them to it.
-/
import Derived.Test.YtgdojcofnobpeaaGreatB1
import Derived.Test.YtgdojcofnobpeaaGreatB3
set_option linter.unusedSimpArgs false
set_option linter.unusedVariables false
set_option linter.unnecessarySimpa false
namespace Go.Eng.F
open C
namespace KU
def r0:=[o 2 (.a8 (.c .nil))]
def r1:=[m 4 0,o 5 (.len 4),m 3 5]
def r2:=[m 6 3,o 7 (.bin .gtr 6 (k 0)),m 8 7,g 9 8 true (.a8 0),g 10 8 true (.a8 3),g 11 8 true (.bin .sub 10 (k 1)),g 12 8 true (.a4 none 1 9 11),
 g 13 8 true (.ld false 1 12),g 14 8 true (.bin .eql 13 (.c (.int .u32 (0)))),o 15 (.pick 8 14 (.c (.bool false)))]
def r3:=[m 16 3,o 17 (.bin .sub 16 (k 1)),m 3 17]
def r4:=[m 18 0,m 19 3,o 20 (.ay 1 18 none (some 19)),o 21 (.app 101021 1 4 (.c .nil) 20),m 2 21]
def l1:=(s (s (d r2 [6,7,8,9,10,11,12,13,14]) (i 15 .skip (x 0))) (b 1 (d r3 [15,16,17])))
def c:=(s (d r0 [2]) (s (d r1 [4,5]) (s (b 0 (w l1)) (s (d r4 [0,3,15,18,19,20,21]) .ret))))
end KU
def KU:AFn:=⟨1,KU.c,[.tmp 2],false⟩
namespace QZ
def r0:=[o 4 (.a8 (k 0))]
def r1:=[m 6 0,o 7 (.call 101 [6]),m 8 1,o 9 (.call 101 [8]),m 0 7,m 1 9]
def r2:=[m 10 0,o 11 (.len 10),m 12 1,o 13 (.len 12),o 14 (.bin .neq 11 13)]
def r3:=[m 15 0,o 16 (.len 15),m 17 1,o 18 (.len 17),o 19 (.bin .lss 16 18)]
def r4:=[o 4 (.a8 (k (-1)))]
def r5:=[o 4 (.a8 (k 1))]
def r6:=[m 20 0,o 21 (.len 20),o 22 (.bin .sub 21 (k 1)),m 5 22]
def r7:=[m 23 5,o 24 (.bin .geq 23 (k 0))]
def r9:=[m 27 0,m 28 5,o 29 (.a4 none 1 27 28),o 30 (.ld false 1 29),m 31 1,m 32 5,o 33 (.a4 none 1 31 32),o 34 (.ld false 1 33),o 35 (.bin .lss 30 34)]
def DQ:=[o 4 (.a8 (k (-1)))]
def DW:=[m 36 0,m 37 5,o 38 (.a4 none 1 36 37),o 39 (.ld false 1 38),m 40 1,m 41 5,o 42 (.a4 none 1 40 41),o 43 (.ld false 1 42),o 44 (.bin .gtr 39 43)]
def q6:=[o 4 (.a8 (k 1))]
def r8:=[m 25 5,o 26 (.bin .sub 25 (k 1)),m 5 26]
def EJ:=[o 4 (.a8 (k 0))]
def l1:=(s (s (d r7 [23]) (i 24 .skip (x 0))) (s (b 1 (s (s (e r9 [24,27,28,29,30,31,32,33,34]) (i 35 (s (d DQ [0,1,5,35]) .ret) .skip)) (s (e DW [35,36,37,38,39,40,41,42,43]) (i 44 (s (d q6 [0,1,5,44]) .ret) .skip)))) (d r8 [25,26,44])))
def c:=(s (d r0 [4]) (s (d r1 [6,7,8,9]) (s (s (d r2 [10,11,12,13]) (i 14 (s (s (d r3 [0,1,14,15,16,17,18]) (i 19 (s (d r4 [19]) .ret) .skip)) (s (d r5 [19]) .ret)) .skip)) (s (s (d r6 [14,20,21,22]) (b 0 (w l1))) (s (d EJ [0,1,5,24]) .ret)))))
end QZ
def QZ:AFn:=⟨2,QZ.c,[.tmp 4],false⟩
namespace QX
def r0:=[o 4 (.a8 (.c .nil))]
def r1:=[o 5 (.q7 5 1)]
def r2:=[o 6 (.a8 (.c (.int .u64 (0))))]
def r3:=[o 7 (.a8 (k 0))]
def r4:=[m 8 7,m 9 0,o 10 (.len 9),o 11 (.bin .lss 8 10),m 12 11,g 13 12 false (.a8 7),g 14 12 false (.a8 1),g 15 12 false (.len 14),
 g 16 12 false (.bin .lss 13 15),o 17 (.pick 12 (.c (.bool true)) 16)]
def r6:=[m 20 7,m 21 0,o 22 (.len 21),o 23 (.bin .lss 20 22)]
def r7:=[m 24 6,m 25 0,m 26 7,o 27 (.a4 none 1 25 26),o 28 (.ld false 1 27),o 29 (.conv .u64 28),o 30 (.bin .add 24 29),m 6 30]
def r8:=[m 31 7,m 32 1,o 33 (.len 32),o 34 (.bin .lss 31 33)]
def r9:=[m 35 6,m 36 1,m 37 7,o 38 (.a4 none 1 36 37),o 39 (.ld false 1 38),o 40 (.conv .u64 39),o 41 (.bin .add 35 40),m 6 41]
def DQ:=[m 42 5,m 43 6,o 44 (.conv .u32 43),o 45 (.c4 45 1 [44]),o 46 (.app 46 1 4 42 45),m 5 46]
def DW:=[m 47 6,o 48 (.bin .shr 47 (.c (.int .u64 (32)))),m 6 48]
def r5:=[m 18 7,o 19 (.bin .add 18 (k 1)),m 7 19]
def q6:=[m 49 5,m 50 6,o 51 (.conv .u32 50),o 52 (.c4 52 1 [51]),o 53 (.app 53 1 4 49 52),o 54 (.call 101 [53]),m 4 54]
def l1:=(s (s (d r4 [8,9,10,11,12,13,14,15,16]) (i 17 .skip (x 0))) (s (b 1 (s (s (d r6 [17,20,21,22]) (i 23 (d r7 [23,24,25,26,27,28,29,30]) .skip)) (s (s (d r8 [23,31,32,33]) (i 34 (d r9 [34,35,36,37,38,39,40,41]) .skip)) (s (d DQ [34,42,43,44,45,46]) (d DW [47,48]))))) (d r5 [18,19])))
def c:=(s (d r0 [4]) (s (p r1) (s (p r2) (s (s (p r3) (b 0 (w l1))) (s (d q6 [0,1,5,6,7,17,49,50,51,52,53,54]) .ret)))))
end QX
def QX:AFn:=⟨2,QX.c,[.tmp 4],false⟩
namespace MF
def r0:=[o 4 (.a8 (.c .nil))]
def r1:=[m 10 0,m 11 1,o 12 (.call 102 [10,11]),o 13 (.bin .lss 12 (k 0))]
def r2:=[o 4 (.a8 (.c .nil))]
def r3:=[m 14 1,o 15 (.call 101 [14]),m 1 15]
def r4:=[m 16 0,o 17 (.c8 101 [16]),m 5 17]
def r5:=[o 6 (.a8 (.c (.int .u64 (0))))]
def r6:=[o 7 (.a8 (k 0))]
def r7:=[m 18 7,m 19 5,o 20 (.len 19),o 21 (.bin .lss 18 20)]
def r9:=[m 24 6,m 8 24]
def DQ:=[m 25 7,m 26 1,o 27 (.len 26),o 28 (.bin .lss 25 27)]
def DW:=[m 29 8,m 30 1,m 31 7,o 32 (.a4 none 1 30 31),o 33 (.ld false 1 32),o 34 (.conv .u64 33),o 35 (.bin .add 29 34),m 8 35]
def q6:=[m 36 5,m 37 7,o 38 (.a4 none 1 36 37),o 39 (.ld false 1 38),o 40 (.conv .u64 39),m 9 40]
def EJ:=[o 6 (.a8 (.c (.int .u64 (0))))]
def v3:=[m 41 9,m 42 8,o 43 (.bin .lss 41 42)]
def v5:=[m 44 9,o 45 (.bin .add 44 (.c (.int .u64 (4294967296)))),m 9 45]
def x7:=[o 6 (.a8 (.c (.int .u64 (1))))]
def GQ:=[m 46 5,m 47 7,m 48 9,m 49 8,o 50 (.bin .sub 48 49),o 51 (.conv .u32 50),o 52 (.a4 none 1 46 47),n (.st 1 52 51)]
def r8:=[m 22 7,o 23 (.bin .add 22 (k 1)),m 7 23]
def x8:=[m 53 5,o 54 (.call 101 [53]),m 4 54]
def l1:=(s (s (d r7 [18,19,20]) (i 21 .skip (x 0))) (s (b 1 (s (d r9 [6,21,24]) (s (s (d DQ [25,26,27]) (i 28 (d DW [28,29,30,31,32,33,34,35]) .skip)) (s (d q6 [28,36,37,38,39,40]) (s (p EJ) (s (s (d v3 [41,42]) (i 43 (s (d v5 [6,43,44,45]) (p x7)) .skip)) (d GQ [8,9,43,46,47,48,49,50,51,52]))))))) (d r8 [22,23])))
def c:=(s (d r0 [4]) (s (s (d r1 [10,11,12]) (i 13 (s (d r2 [0,1,13]) .ret) .skip)) (s (d r3 [13,14,15]) (s (d r4 [0,16,17]) (s (p r5) (s (s (p r6) (b 0 (w l1))) (s (d x8 [1,5,6,7,21,53,54]) .ret)))))))
end MF
def MF:AFn:=⟨2,MF.c,[.tmp 4],false⟩
namespace Q2
def r0:=[o 4 (.a8 (.c .nil))]
def r1:=[m 9 0,o 10 (.len 9),m 11 1,o 12 (.len 11),o 13 (.bin .add 10 12),o 14 (.bin .add 13 (k 1)),o 15 (.mk 15 1 4 [(.int .u32 (0))] 14 14),m 5 15]
def r2:=[o 6 (.a8 (k 0))]
def r3:=[m 16 6,m 17 0,o 18 (.len 17),o 19 (.bin .lss 16 18)]
def r5:=[o 7 (.a8 (.c (.int .u64 (0))))]
def r6:=[o 8 (.a8 (k 0))]
def r7:=[m 22 8,m 23 1,o 24 (.len 23),o 25 (.bin .lss 22 24)]
def r9:=[m 28 7,m 29 0,m 30 6,o 31 (.a4 none 1 29 30),o 32 (.ld false 1 31),o 33 (.conv .u64 32),m 34 1,m 35 8,o 36 (.a4 none 1 34 35),
 o 37 (.ld false 1 36),o 38 (.conv .u64 37),o 39 (.bin .mul 33 38),m 40 5,m 41 6,m 42 8,o 43 (.bin .add 41 42),o 44 (.a4 none 1 40 43),
 o 45 (.ld false 1 44),o 46 (.conv .u64 45),o 47 (.bin .add 39 46),o 48 (.bin .add 28 47),m 7 48]
def DQ:=[m 49 5,m 50 6,m 51 8,o 52 (.bin .add 50 51),m 53 7,o 54 (.conv .u32 53),o 55 (.a4 none 1 49 52),n (.st 1 55 54)]
def DW:=[m 56 7,o 57 (.bin .shr 56 (.c (.int .u64 (32)))),m 7 57]
def r8:=[m 26 8,o 27 (.bin .add 26 (k 1)),m 8 27]
def q6:=[m 58 5,m 59 6,m 60 1,o 61 (.len 60),o 62 (.bin .add 59 61),m 63 7,o 64 (.conv .u32 63),o 65 (.a4 none 1 58 62),n (.st 1 65 64)]
def r4:=[m 20 6,o 21 (.bin .add 20 (k 1)),m 6 21]
def EJ:=[m 66 5,o 67 (.call 101 [66]),m 4 67]
def l2:=(s (s (d r7 [22,23,24]) (i 25 .skip (x 2))) (s (b 3 (s (e r9 [25,28,29,30,31,32,33,34,35,36,37,38,39,40,41,42,43,44,45,46,47,48]) (s (d DQ [49,50,51,52,53,54,55]) (d DW [56,57])))) (d r8 [26,27])))
def l1:=(s (s (d r3 [16,17,18]) (i 19 .skip (x 0))) (s (b 1 (s (d r5 [19]) (s (s (p r6) (b 2 (w l2))) (d q6 [7,8,25,58,59,60,61,62,63,64,65])))) (d r4 [20,21])))
def c:=(s (d r0 [4]) (s (d r1 [9,10,11,12,13,14,15]) (s (s (p r2) (b 0 (w l1))) (s (d EJ [0,1,5,6,19,66,67]) .ret))))
end Q2
def Q2:AFn:=⟨2,Q2.c,[.tmp 4],false⟩
namespace QY
def r0:=[o 2 (.a8 (k 0))]
def r1:=[m 5 0,o 6 (.call 101 [5]),m 0 6]
def r2:=[m 7 0,o 8 (.len 7),o 9 (.bin .eql 8 (k 0))]
def r3:=[o 2 (.a8 (k 0))]
def r4:=[m 10 0,o 11 (.len 10),o 12 (.bin .sub 11 (k 1)),o 13 (.bin .mul (k 32) 12),m 3 13]
def r5:=[m 14 0,m 15 0,o 16 (.len 15),o 17 (.bin .sub 16 (k 1)),o 18 (.a4 none 1 14 17),o 19 (.ld false 1 18),m 4 19]
def r6:=[m 20 4,o 21 (.bin .gtr 20 (.c (.int .u32 (0))))]
def r8:=[m 24 3,o 25 (.bin .add 24 (k 1)),m 3 25]
def r7:=[m 22 4,o 23 (.bin .shr 22 (.c (.int .u64 (1)))),m 4 23]
def r9:=[m 26 3,m 2 26]
def l1:=(s (s (d r6 [20]) (i 21 .skip (x 0))) (s (b 1 (d r8 [21,24,25])) (d r7 [22,23])))
def c:=(s (d r0 [2]) (s (d r1 [5,6]) (s (s (d r2 [7,8]) (i 9 (s (d r3 [0,9]) .ret) .skip)) (s (d r4 [9,10,11,12,13]) (s (s (d r5 [0,14,15,16,17,18,19]) (b 0 (w l1))) (s (d r9 [3,4,21,26]) .ret))))))
end QY
def QY:AFn:=⟨1,QY.c,[.tmp 2],false⟩
namespace LS
def r0:=[o 4 (.a8 (.c .nil))]
def r1:=[m 11 0,o 12 (.call 101 [11]),m 0 12]
def r2:=[m 13 1,o 14 (.bin .gtr 13 (k 65536)),m 15 14,g 16 15 false (.a8 0),g 17 15 false (.len 16),g 18 15 false (.bin .eql 17 (k 0)),
 o 19 (.pick 15 (.c (.bool true)) 18)]
def r3:=[o 4 (.a8 (.c .nil))]
def r4:=[m 20 1,o 21 (.bin .lss 20 (k 0))]
def r5:=[m 22 1,m 23 0,o 24 (.len 23),o 25 (.bin .mul (k (-32)) 24),o 26 (.bin .lss 22 25)]
def r6:=[o 4 (.a8 (.c .nil))]
def r7:=[m 27 1,o 28 (.un .neg 27),m 1 28]
def r8:=[o 5 (.q7 107005 1)]
def r9:=[m 29 1,o 30 (.bin .quo 29 (k 32)),m 6 30]
def DQ:=[m 31 6,m 32 0,o 33 (.len 32),o 34 (.bin .lss 31 33)]
def q6:=[m 37 0,m 38 6,o 39 (.a4 none 1 37 38),o 40 (.ld false 1 39),o 41 (.conv .u64 40),m 7 41]
def EJ:=[m 42 6,o 43 (.bin .add 42 (k 1)),m 44 0,o 45 (.len 44),o 46 (.bin .lss 43 45)]
def v3:=[m 47 7,m 48 0,m 49 6,o 50 (.bin .add 49 (k 1)),o 51 (.a4 none 1 48 50),o 52 (.ld false 1 51),o 53 (.conv .u64 52),
 o 54 (.bin .shl 53 (.c (.int .u64 (32)))),o 55 (.bin .or 47 54),m 7 55]
def v5:=[m 56 5,m 57 7,m 58 1,o 59 (.bin .rem 58 (k 32)),o 60 (.conv .u64 59),o 61 (.bin .shr 57 60),o 62 (.conv .u32 61),o 63 (.c4 107063 1 [62]),
 o 64 (.app 107064 1 4 56 63),m 5 64]
def DW:=[m 35 6,o 36 (.bin .add 35 (k 1)),m 6 36]
def x7:=[m 65 5,o 66 (.call 101 [65]),m 4 66]
def GQ:=[m 67 1,o 68 (.bin .quo 67 (k 32)),o 69 (.mk 107069 1 4 [(.int .u32 (0))] 68 68),m 8 69]
def x8:=[o 9 (.a8 (.c (.int .u64 (0))))]
def r19:=[o 10 (.a8 (k 0))]
def bg:=[m 70 10,m 71 0,o 72 (.len 71),o 73 (.bin .lss 70 72)]
def de:=[m 76 9,m 77 0,m 78 10,o 79 (.a4 none 1 77 78),o 80 (.ld false 1 79),o 81 (.conv .u64 80),m 82 1,o 83 (.bin .rem 82 (k 32)),o 84 (.conv .u64 83),
 o 85 (.bin .shl 81 84),o 86 (.bin .or 76 85),m 9 86]
def fu:=[m 87 8,m 88 9,o 89 (.conv .u32 88),o 90 (.c4 107090 1 [89]),o 91 (.app 107091 1 4 87 90),m 8 91]
def LP:=[m 92 9,o 93 (.bin .shr 92 (.c (.int .u64 (32)))),m 9 93]
def da:=[m 74 10,o 75 (.bin .add 74 (k 1)),m 10 75]
def QJ:=[m 94 8,m 95 9,o 96 (.conv .u32 95),o 97 (.c4 107097 1 [96]),o 98 (.app 107098 1 4 94 97),o 99 (.c8 101 [98]),m 4 99]
def l1:=(s (s (d DQ [31,32,33]) (i 34 .skip (x 0))) (s (b 1 (s (d q6 [34,37,38,39,40,41]) (s (s (d EJ [42,43,44,45]) (i 46 (d v3 [46,47,48,49,50,51,52,53,54,55]) .skip)) (d v5 [7,46,56,57,58,59,60,61,62,63,64])))) (d DW [35,36])))
def l2:=(s (s (d bg [70,71,72]) (i 73 .skip (x 2))) (s (b 3 (s (d de [73,76,77,78,79,80,81,82,83,84,85,86]) (s (d fu [87,88,89,90,91]) (d LP [92,93])))) (d da [74,75])))
def c:=(s (d r0 [4]) (s (d r1 [11,12]) (s (s (d r2 [13,14,15,16,17,18]) (i 19 (s (d r3 [0,1,19]) .ret) .skip)) (s (s (d r4 [19,20]) (i 21 (s (s (d r5 [21,22,23,24,25]) (i 26 (s (d r6 [0,1,26]) .ret) .skip)) (s (d r7 [26,27,28]) (s (p r8) (s (s (d r9 [29,30]) (b 0 (w l1))) (s (d x7 [0,1,5,6,34,65,66]) .ret))))) .skip)) (s (d GQ [21,67,68,69]) (s (p x8) (s (s (p r19) (b 2 (w l2))) (s (d QJ [0,1,8,9,10,73,94,95,96,97,98,99]) .ret))))))))
end LS
def LS:AFn:=⟨2,LS.c,[.tmp 4],false⟩
namespace Q4
def r0:=[o 4 (.a8 (.c .nil)),o 5 (.a8 (.c (.int .u32 (0))))]
def r1:=[m 9 0,o 10 (.len 9),o 11 (.mk 11 1 4 [(.int .u32 (0))] 10 10),m 6 11]
def r2:=[o 7 (.a8 (.c (.int .u64 (0))))]
def r3:=[m 12 0,o 13 (.len 12),o 14 (.bin .sub 13 (k 1)),m 8 14]
def r4:=[m 15 8,o 16 (.bin .geq 15 (k 0))]
def r6:=[m 19 7,o 20 (.bin .shl 19 (.c (.int .u64 (32)))),m 21 0,m 22 8,o 23 (.a4 none 1 21 22),o 24 (.ld false 1 23),o 25 (.conv .u64 24),
 o 26 (.bin .or 20 25),m 7 26]
def r7:=[m 27 6,m 28 8,m 29 7,m 30 1,o 31 (.conv .u64 30),o 32 (.bin .quo 29 31),o 33 (.conv .u32 32),o 34 (.a4 none 1 27 28),n (.st 1 34 33)]
def r8:=[m 35 7,m 36 1,o 37 (.conv .u64 36),o 38 (.bin .rem 35 37),m 7 38]
def r5:=[m 17 8,o 18 (.bin .sub 17 (k 1)),m 8 18]
def r9:=[m 39 6,o 40 (.call 101 [39]),m 41 7,o 42 (.conv .u32 41),m 4 40,m 5 42]
def l1:=(s (s (d r4 [15]) (i 16 .skip (x 0))) (s (b 1 (s (d r6 [16,19,20,21,22,23,24,25,26]) (s (d r7 [27,28,29,30,31,32,33,34]) (d r8 [35,36,37,38])))) (d r5 [17,18])))
def c:=(s (d r0 [4,5]) (s (d r1 [9,10,11]) (s (p r2) (s (s (d r3 [12,13,14]) (b 0 (w l1))) (s (d r9 [0,1,6,7,8,16,39,40,41,42]) .ret)))))
end Q4
def Q4:AFn:=⟨2,Q4.c,[.tmp 4,.tmp 5],false⟩
namespace GG
def r0:=[o 4 (.a8 (.c .nil)),o 5 (.a8 (.c .nil)),o 6 (.a8 (k 0))]
def r1:=[m 27 0,o 28 (.call 101 [27]),m 29 1,o 30 (.call 101 [29]),m 0 28,m 1 30]
def r2:=[m 31 1,o 32 (.len 31),o 33 (.bin .eql 32 (k 0))]
def r3:=[o 4 (.a8 (.c .nil)),o 5 (.a8 (.c .nil)),o 6 (.a8 (k 3))]
def r4:=[m 34 1,o 35 (.len 34),o 36 (.bin .eql 35 (k 1))]
def r5:=[m 38 0,m 39 1,o 40 (.a4 none 1 39 (k 0)),o 41 (.ld false 1 40),o 42 (.call 108 [38,41]),m 37 42,o 43 (.ext 37 0),o 44 (.ext 37 1),m 7 43,m 8 44]
def r6:=[m 45 7,m 46 8,o 47 (.c4 47 1 [46]),o 48 (.call 101 [47]),m 4 45,m 5 48,o 6 (.a8 (k 0))]
def r7:=[m 49 0,m 50 1,o 51 (.call 102 [49,50]),o 52 (.bin .lss 51 (k 0))]
def r8:=[m 53 0,o 4 (.a8 (.c .nil)),m 5 53,o 6 (.a8 (k 0))]
def r9:=[m 54 1,m 55 1,o 56 (.len 55),o 57 (.bin .sub 56 (k 1)),o 58 (.ay 1 54 (some 57) none),o 59 (.call 106 [58]),o 60 (.bin .sub (k 32) 59),m 9 60]
def DQ:=[m 61 0,m 62 9,o 63 (.c8 107 [61,62]),m 64 1,m 65 9,o 66 (.call 107 [64,65]),m 10 63,m 11 66]
def DW:=[m 67 10,o 68 (.c4 68 1 [(.c (.int .u32 (0)))]),o 69 (.app 69 1 4 67 68),m 10 69]
def q6:=[m 70 10,o 71 (.len 70),m 72 0,o 73 (.len 72),o 74 (.bin .add 73 (k 1)),o 75 (.bin .lss 71 74)]
def EJ:=[m 76 10,o 77 (.c4 77 1 [(.c (.int .u32 (0)))]),o 78 (.app 78 1 4 76 77),m 10 78]
def v3:=[m 79 11,o 80 (.len 79),m 12 80]
def v5:=[m 81 10,o 82 (.len 81),m 83 12,o 84 (.bin .sub 82 83),o 85 (.mk 85 1 4 [(.int .u32 (0))] 84 84),m 13 85]
def x7:=[m 86 10,o 87 (.len 86),m 88 12,o 89 (.bin .sub 87 88),o 90 (.bin .sub 89 (k 1)),m 14 90]
def GQ:=[m 91 14,o 92 (.bin .geq 91 (k 0))]
def r19:=[m 95 10,m 96 14,m 97 12,o 98 (.bin .add 96 97),o 99 (.a4 none 1 95 98),o 100 (.ld false 1 99),o 101 (.conv .u64 100),
 o 102 (.bin .shl 101 (.c (.int .u64 (32)))),m 103 10,m 104 14,m 105 12,o 106 (.bin .add 104 105),o 107 (.bin .sub 106 (k 1)),
 o 108 (.a4 none 1 103 107),o 109 (.ld false 1 108),o 110 (.conv .u64 109),o 111 (.bin .or 102 110),m 15 111]
def bg:=[m 112 15,m 113 11,m 114 12,o 115 (.bin .sub 114 (k 1)),o 116 (.a4 none 1 113 115),o 117 (.ld false 1 116),o 118 (.conv .u64 117),
 o 119 (.bin .quo 112 118),m 16 119]
def da:=[m 120 15,m 121 11,m 122 12,o 123 (.bin .sub 122 (k 1)),o 124 (.a4 none 1 121 123),o 125 (.ld false 1 124),o 126 (.conv .u64 125),
 o 127 (.bin .rem 120 126),m 17 127]
def de:=[m 128 16,o 129 (.bin .geq 128 (.c (.int .u64 (4294967296)))),m 130 129,g 131 130 false (.a8 16),g 132 130 false (.a8 11),g 133 130 false (.a8 12),
 g 134 130 false (.bin .sub 133 (k 2)),g 135 130 false (.a4 none 1 132 134),g 136 130 false (.ld false 1 135),g 137 130 false (.conv .u64 136),
 g 138 130 false (.bin .mul 131 137),g 139 130 false (.a8 17),g 140 130 false (.bin .shl 139 (.c (.int .u64 (32)))),g 141 130 false (.a8 10),
 g 142 130 false (.a8 14),g 143 130 false (.a8 12),g 144 130 false (.bin .add 142 143),g 145 130 false (.bin .sub 144 (k 2)),
 g 146 130 false (.a4 none 1 141 145),g 147 130 false (.ld false 1 146),g 148 130 false (.conv .u64 147),g 149 130 false (.bin .or 140 148),
 g 150 130 false (.bin .gtr 138 149),o 151 (.pick 130 (.c (.bool true)) 150)]
def fu:=[m 152 16,o 153 (.bin .sub 152 (.c (.int .u64 (1)))),m 16 153]
def LP:=[m 154 17,m 155 11,m 156 12,o 157 (.bin .sub 156 (k 1)),o 158 (.a4 none 1 155 157),o 159 (.ld false 1 158),o 160 (.conv .u64 159),
 o 161 (.bin .add 154 160),m 17 161]
def QJ:=[m 162 17,o 163 (.bin .geq 162 (.c (.int .u64 (4294967296))))]
def VH:=[o 18 (.a8 (.c (.int .u64 (0)))),o 19 (.a8 (.c (.int .u64 (0))))]
def VI:=[o 20 (.a8 (k 0))]
def X8:=[m 164 20,m 165 12,o 166 (.bin .lss 164 165)]
def r30:=[m 169 19,m 170 16,m 171 11,m 172 20,o 173 (.a4 none 1 171 172),o 174 (.ld false 1 173),o 175 (.conv .u64 174),o 176 (.bin .mul 170 175),
 o 177 (.bin .add 169 176),m 19 177]
def px:=[m 178 19,o 179 (.bin .and 178 (.c (.int .u64 (4294967295)))),m 180 18,o 181 (.bin .add 179 180),m 21 181]
def pA:=[m 182 19,o 183 (.bin .shr 182 (.c (.int .u64 (32)))),m 19 183]
def pB:=[m 184 10,m 185 20,m 186 14,o 187 (.bin .add 185 186),o 188 (.a4 none 1 184 187),o 189 (.ld false 1 188),o 190 (.conv .u64 189),m 22 190]
def pC:=[o 18 (.a8 (.c (.int .u64 (0))))]
def pD:=[m 191 22,m 192 21,o 193 (.bin .lss 191 192)]
def pE:=[m 194 22,o 195 (.bin .add 194 (.c (.int .u64 (4294967296)))),m 22 195]
def pF:=[o 18 (.a8 (.c (.int .u64 (1))))]
def pG:=[m 196 10,m 197 20,m 198 14,o 199 (.bin .add 197 198),m 200 22,m 201 21,o 202 (.bin .sub 200 201),o 203 (.conv .u32 202),o 204 (.a4 none 1 196 199),
 n (.st 1 204 203)]
def X9:=[m 167 20,o 168 (.bin .add 167 (k 1)),m 20 168]
def Jx:=[m 205 19,m 206 18,o 207 (.bin .add 205 206),m 23 207]
def Jy:=[m 208 10,m 209 14,m 210 12,o 211 (.bin .add 209 210),o 212 (.a4 none 1 208 211),o 213 (.ld false 1 212),o 214 (.conv .u64 213),m 24 214]
def Jz:=[o 18 (.a8 (.c (.int .u64 (0))))]
def Ka:=[m 215 24,m 216 23,o 217 (.bin .lss 215 216)]
def Kb:=[m 218 24,o 219 (.bin .add 218 (.c (.int .u64 (4294967296)))),m 24 219]
def Kc:=[o 18 (.a8 (.c (.int .u64 (1))))]
def Kd:=[m 220 10,m 221 14,m 222 12,o 223 (.bin .add 221 222),m 224 24,m 225 23,o 226 (.bin .sub 224 225),o 227 (.conv .u32 226),o 228 (.a4 none 1 220 223),
 n (.st 1 228 227)]
def Ke:=[m 229 18,o 230 (.bin .eql 229 (.c (.int .u64 (1))))]
def Kf:=[m 231 16,o 232 (.bin .sub 231 (.c (.int .u64 (1)))),m 16 232]
def Kg:=[o 25 (.a8 (.c (.int .u64 (0))))]
def Kh:=[o 26 (.a8 (k 0))]
def r50:=[m 233 26,m 234 12,o 235 (.bin .lss 233 234)]
def r52:=[m 238 25,m 239 10,m 240 26,m 241 14,o 242 (.bin .add 240 241),o 243 (.a4 none 1 239 242),o 244 (.ld false 1 243),o 245 (.conv .u64 244),m 246 11,
 m 247 26,o 248 (.a4 none 1 246 247),o 249 (.ld false 1 248),o 250 (.conv .u64 249),o 251 (.bin .add 245 250),o 252 (.bin .add 238 251),m 25 252]
def r53:=[m 253 10,m 254 26,m 255 14,o 256 (.bin .add 254 255),m 257 25,o 258 (.conv .u32 257),o 259 (.a4 none 1 253 256),n (.st 1 259 258)]
def r54:=[m 260 25,o 261 (.bin .shr 260 (.c (.int .u64 (32)))),m 25 261]
def r51:=[m 236 26,o 237 (.bin .add 236 (k 1)),m 26 237]
def Ki:=[m 262 10,m 263 14,m 264 12,o 265 (.bin .add 263 264),o 266 (.a4 none 1 262 265),o 267 (.ld false 1 266),m 268 25,o 269 (.conv .u32 268),
 o 270 (.bin .add 267 269),o 271 (.a4 none 1 262 265),n (.st 1 271 270)]
def Kj:=[m 272 13,m 273 14,m 274 16,o 275 (.conv .u32 274),o 276 (.a4 none 1 272 273),n (.st 1 276 275)]
def x8:=[m 93 14,o 94 (.bin .sub 93 (k 1)),m 14 94]
def Cc:=[m 277 13,o 278 (.call 101 [277]),m 279 10,m 280 12,o 281 (.ay 1 279 none (some 280)),m 282 9,o 283 (.un .neg 282),o 284 (.call 107 [281,283]),m 4 278,
 m 5 284,o 6 (.a8 (k 0))]
def l1:=(s (s (d q6 [70,71,72,73,74]) (i 75 .skip (x 0))) (b 1 (d EJ [75,76,77,78])))
def l3:=(s (s (e de [128,129,130,131,132,133,134,135,136,137,138,139,140,141,142,143,144,145,146,147,148,149,150,163]) (i 151 .skip (x 4))) (b 5 (s (d fu [151,152,153]) (s (d LP [154,155,156,157,158,159,160,161]) (s (d QJ [162]) (i 163 (x 4) .skip))))))
def l4:=(s (s (d X8 [164,165]) (i 166 .skip (x 6))) (s (b 7 (s (d r30 [166,169,170,171,172,173,174,175,176,177]) (s (d px [18,178,179,180,181]) (s (d pA [182,183]) (s (d pB [184,185,186,187,188,189,190]) (s (p pC) (s (s (d pD [191,192]) (i 193 (s (d pE [18,193,194,195]) (p pF)) .skip)) (d pG [21,22,193,196,197,198,199,200,201,202,203,204])))))))) (d X9 [167,168])))
def l5:=(s (s (d r50 [233,234]) (i 235 .skip (x 8))) (s (b 9 (s (e r52 [235,238,239,240,241,242,243,244,245,246,247,248,249,250,251,252]) (s (d r53 [253,254,255,256,257,258,259]) (d r54 [260,261])))) (d r51 [236,237])))
def l2:=(s (s (d GQ [91]) (i 92 .skip (x 2))) (s (b 3 (s (e r19 [92,95,96,97,98,99,100,101,102,103,104,105,106,107,108,109,110,111]) (s (d bg [112,113,114,115,116,117,118,119]) (s (d da [15,120,121,122,123,124,125,126,127]) (s (b 4 (w l3)) (s (d VH [17,151,163]) (s (s (p VI) (b 6 (w l4))) (s (d Jx [18,19,20,166,205,206,207]) (s (d Jy [208,209,210,211,212,213,214]) (s (p Jz) (s (s (d Ka [215,216]) (i 217 (s (d Kb [18,217,218,219]) (p Kc)) .skip)) (s (d Kd [23,24,217,220,221,222,223,224,225,226,227,228]) (s (s (d Ke [18,229]) (i 230 (s (d Kf [230,231,232]) (s (p Kg) (s (s (p Kh) (b 8 (w l5))) (d Ki [25,26,235,262,263,264,265,266,267,268,269,270,271])))) .skip)) (d Kj [16,230,272,273,274,275,276])))))))))))))) (d x8 [93,94])))
def c:=(s (d r0 [4,5,6]) (s (d r1 [27,28,29,30]) (s (s (d r2 [31,32]) (i 33 (s (d r3 [0,1,33]) .ret) .skip)) (s (s (d r4 [33,34,35]) (i 36 (s (d r5 [0,1,36,37,38,39,40,41,42,43,44]) (s (d r6 [7,8,45,46,47,48]) .ret)) .skip)) (s (s (d r7 [36,49,50,51]) (i 52 (s (d r8 [0,1,52,53]) .ret) .skip)) (s (d r9 [52,54,55,56,57,58,59,60]) (s (d DQ [1,61,62,63,64,65,66]) (s (d DW [67,68,69]) (s (b 0 (w l1)) (s (d v3 [0,75,79,80]) (s (d v5 [81,82,83,84,85]) (s (s (d x7 [86,87,88,89,90]) (b 2 (w l2))) (s (e Cc [9,10,11,12,13,14,92,277,278,279,280,281,282,283,284]) .ret)))))))))))))
end GG
def GG:AFn:=⟨2,GG.c,[.tmp 4,.tmp 5,.tmp 6],false⟩
namespace Q1
def r0:=[o 4 (.a8 (.c .nil))]
def r1:=[m 8 0,o 9 (.call 101 [8]),m 10 1,o 11 (.call 101 [10]),m 0 9,m 1 11]
def r2:=[m 12 1,o 13 (.len 12),o 14 (.bin .gtr 13 (k 0))]
def r3:=[m 16 0,m 17 1,o 18 (.call 109 [16,17]),m 15 18,o 19 (.ext 15 0),o 20 (.ext 15 1),o 21 (.ext 15 2),m 5 19,m 6 20,m 7 21]
def r4:=[m 22 1,m 23 6,m 0 22,m 1 23]
def r5:=[m 24 0,m 4 24]
def l1:=(s (s (d r2 [12,13]) (i 14 .skip (x 0))) (b 1 (s (d r3 [0,5,7,14,15,16,17,18,19,20,21]) (d r4 [6,22,23]))))
def c:=(s (d r0 [4]) (s (d r1 [8,9,10,11]) (s (b 0 (w l1)) (s (d r5 [0,1,14,24]) .ret))))
end Q1
def Q1:AFn:=⟨2,Q1.c,[.tmp 4],false⟩
namespace RF
def r0:=[o 1 (.box 1 0),o 2 (.alloc 2 [(.bool false),.nil])]
def r1:=[o 4 (.a7 1 1),o 5 (.ld false 1 4),o 6 (.call 101 [5]),m 3 6]
def r2:=[o 7 (.a7 1 0),o 8 (.ld false 1 7),m 9 8,g 10 9 true (.a8 3),g 11 9 true (.len 10),g 12 9 true (.bin .gtr 11 (k 0)),
 o 13 (.pick 9 12 (.c (.bool false))),m 14 3,o 15 (.build [(.bool false),.nil] [(0,1,13),(1,1,14)]),n (.st 2 2 15)]
def c:=(s (d r0 [0]) (s (d r1 [4,5,6]) (s (d r2 [1,3,7,8,9,10,11,12,13,14,15]) .ret)))
end RF
def RF:AFn:=⟨1,RF.c,[.cell 2 true 2],false⟩
namespace RB
def r0:=[o 2 (.alloc 2 [(.bool false),.nil])]
def r1:=[m 4 0,o 5 (.bin .lss 4 (k 0))]
def r2:=[m 6 0,o 7 (.bin .add 6 (k 1)),o 8 (.un .neg 7),o 9 (.conv .u64 8),o 10 (.bin .add 9 (.c (.int .u64 (1)))),m 3 10]
def r3:=[m 11 3,o 12 (.conv .u32 11),m 13 3,o 14 (.bin .shr 13 (.c (.int .u64 (32)))),o 15 (.conv .u32 14),o 16 (.c4 16 1 [12,15]),
 o 17 (.build [(.bool false),.nil] [(0,1,(.c (.bool true))),(1,1,16)]),o 18 (.call 111 [17]),n (.st 2 2 18)]
def r4:=[m 19 0,o 20 (.conv .u32 19),m 21 0,o 22 (.conv .u64 21),o 23 (.bin .shr 22 (.c (.int .u64 (32)))),o 24 (.conv .u32 23),o 25 (.c4 25 1 [20,24]),
 o 26 (.build [(.bool false),.nil] [(1,1,25)]),o 27 (.call 111 [26]),n (.st 2 2 27)]
def c:=(s (p r0) (s (s (d r1 [4]) (i 5 (s (d r2 [0,5,6,7,8,9,10]) (s (d r3 [3,11,12,13,14,15,16,17,18]) .ret)) .skip)) (s (d r4 [0,5,19,20,21,22,23,24,25,26,27]) .ret)))
end RB
def RB:AFn:=⟨1,RB.c,[.cell 2 true 2],false⟩
namespace RD
def r0:=[o 1 (.box 1 0),o 2 (.a8 (k 0))]
def r1:=[o 3 (.ld true 2 1),o 4 (.call 111 [3]),n (.st 2 1 4)]
def r2:=[o 6 (.a7 1 1),o 7 (.ld false 1 6),o 8 (.len 7),o 9 (.bin .eql 8 (k 0)),m 5 9]
def r3:=[o 2 (.a8 (k 0))]
def r4:=[o 11 (.a7 1 0),o 12 (.ld false 1 11),m 10 12]
def r5:=[o 2 (.a8 (k (-1)))]
def r6:=[o 2 (.a8 (k 1))]
def c:=(s (d r0 [0,2]) (s (d r1 [3,4]) (s (b 0 (s (d r2 [6,7,8,9]) (i 5 (s (d r3 [1,5]) .ret) (s (d r4 [1,5,11,12]) (i 10 (s (d r5 [10]) .ret) .skip))))) (s (d r6 [10]) .ret))))
end RD
def RD:AFn:=⟨1,RD.c,[.tmp 2],false⟩
namespace RA
def r0:=[o 1 (.box 1 0),o 2 (.alloc 2 [(.bool false),.nil])]
def r1:=[o 3 (.ld true 2 1),o 4 (.call 111 [3]),n (.st 2 1 4)]
def r2:=[o 5 (.a7 1 0),o 6 (.ld false 1 5),o 7 (.un .not 6),m 8 7,g 9 8 true (.a7 1 1),g 10 8 true (.ld false 1 9),g 11 8 true (.len 10),
 g 12 8 true (.bin .gtr 11 (k 0)),o 13 (.pick 8 12 (.c (.bool false))),o 14 (.a7 1 0),n (.st 1 14 13)]
def r3:=[o 15 (.ld true 2 1),n (.st 2 2 15)]
def c:=(s (d r0 [0]) (s (d r1 [3,4]) (s (d r2 [5,6,7,8,9,10,11,12,13,14]) (s (d r3 [1,15]) .ret))))
end RA
def RA:AFn:=⟨1,RA.c,[.cell 2 true 2],false⟩
namespace Q5
def r0:=[o 2 (.box 2 0),o 3 (.box 3 1),o 4 (.alloc 4 [(.bool false),.nil])]
def r1:=[o 5 (.ld true 2 2),o 6 (.call 111 [5]),o 7 (.ld true 2 3),o 8 (.call 111 [7]),n (.st 2 2 6),n (.st 2 3 8)]
def r2:=[o 9 (.a7 2 0),o 10 (.ld false 1 9),o 11 (.a7 3 0),o 12 (.ld false 1 11),o 13 (.beq false 10 12)]
def r3:=[o 14 (.a7 2 0),o 15 (.ld false 1 14),o 16 (.a7 2 1),o 17 (.ld false 1 16),o 18 (.a7 3 1),o 19 (.ld false 1 18),o 20 (.call 103 [17,19]),
 o 21 (.build [(.bool false),.nil] [(0,1,15),(1,1,20)]),o 22 (.call 111 [21]),n (.st 2 4 22)]
def r4:=[o 23 (.a7 2 1),o 24 (.ld false 1 23),o 25 (.a7 3 1),o 26 (.ld false 1 25),o 27 (.call 102 [24,26]),o 28 (.bin .geq 27 (k 0))]
def r5:=[o 29 (.a7 2 0),o 30 (.ld false 1 29),o 31 (.a7 2 1),o 32 (.ld false 1 31),o 33 (.a7 3 1),o 34 (.ld false 1 33),o 35 (.call 104 [32,34]),
 o 36 (.build [(.bool false),.nil] [(0,1,30),(1,1,35)]),o 37 (.call 111 [36]),n (.st 2 4 37)]
def r6:=[o 38 (.a7 3 0),o 39 (.ld false 1 38),o 40 (.a7 3 1),o 41 (.ld false 1 40),o 42 (.a7 2 1),o 43 (.ld false 1 42),o 44 (.call 104 [41,43]),
 o 45 (.build [(.bool false),.nil] [(0,1,39),(1,1,44)]),o 46 (.call 111 [45]),n (.st 2 4 46)]
def c:=(s (d r0 [0,1]) (s (e r1 [5,6,7,8]) (s (s (d r2 [9,10,11,12]) (i 13 (s (e r3 [2,3,13,14,15,16,17,18,19,20,21,22]) .ret) .skip)) (s (s (d r4 [13,23,24,25,26,27]) (i 28 (s (e r5 [2,3,28,29,30,31,32,33,34,35,36,37]) .ret) .skip)) (s (e r6 [2,3,28,38,39,40,41,42,43,44,45,46]) .ret)))))
end Q5
def Q5:AFn:=⟨2,Q5.c,[.cell 4 true 2],false⟩
namespace RE
def r0:=[o 2 (.box 2 0),o 3 (.box 3 1),o 4 (.alloc 4 [(.bool false),.nil])]
def r1:=[o 5 (.ld true 2 2),o 6 (.ld true 2 3),o 7 (.call 114 [6]),o 8 (.call 115 [5,7]),n (.st 2 4 8)]
def c:=(s (d r0 [0,1]) (s (e r1 [2,3,5,6,7,8]) .ret))
end RE
def RE:AFn:=⟨2,RE.c,[.cell 4 true 2],false⟩
namespace Q6
def r0:=[o 2 (.box 2 0),o 3 (.box 3 1),o 4 (.a8 (k 0))]
def r1:=[o 5 (.ld true 2 2),o 6 (.ld true 2 3),o 7 (.call 116 [5,6]),o 8 (.call 113 [7]),m 4 8]
def c:=(s (d r0 [0,1,4]) (s (d r1 [2,3,5,6,7,8]) .ret))
end Q6
def Q6:AFn:=⟨2,Q6.c,[.tmp 4],false⟩
namespace Q9
def r0:=[o 2 (.box 2 0),o 3 (.box 3 1),o 4 (.alloc 4 [(.bool false),.nil])]
def r1:=[o 5 (.a7 2 0),o 6 (.ld false 1 5),o 7 (.a7 3 0),o 8 (.ld false 1 7),o 9 (.beq true 6 8),o 10 (.a7 2 1),o 11 (.ld false 1 10),o 12 (.a7 3 1),
 o 13 (.ld false 1 12),o 14 (.call 105 [11,13]),o 15 (.build [(.bool false),.nil] [(0,1,9),(1,1,14)]),o 16 (.call 111 [15]),n (.st 2 4 16)]
def c:=(s (d r0 [0,1]) (s (e r1 [2,3,5,6,7,8,9,10,11,12,13,14,15,16]) .ret))
end Q9
def Q9:AFn:=⟨2,Q9.c,[.cell 4 true 2],false⟩
namespace Q7
def r0:=[o 2 (.box 2 0),o 3 (.box 3 1),o 4 (.alloc 4 [(.bool false),.nil]),o 5 (.alloc 5 [(.bool false),.nil]),o 6 (.a8 (k 0))]
def r1:=[o 10 (.ld true 2 2),o 11 (.call 111 [10]),o 12 (.ld true 2 3),o 13 (.call 111 [12]),n (.st 2 2 11),n (.st 2 3 13)]
def r2:=[o 15 (.a7 2 1),o 16 (.ld false 1 15),o 17 (.a7 3 1),o 18 (.ld false 1 17),o 19 (.call 109 [16,18]),m 14 19,o 20 (.ext 14 0),o 21 (.ext 14 1),
 o 22 (.ext 14 2),m 7 20,m 8 21,m 9 22]
def r3:=[m 23 9,o 24 (.bin .neq 23 (k 0))]
def r4:=[o 25 (.build [(.bool false),.nil] []),o 26 (.build [(.bool false),.nil] []),m 27 9,n (.st 2 4 25),n (.st 2 5 26),m 6 27]
def r5:=[o 28 (.a7 2 0),o 29 (.ld false 1 28),m 30 29,g 31 30 true (.a8 8),g 32 30 true (.len 31),g 33 30 true (.bin .gtr 32 (k 0)),
 o 34 (.pick 30 33 (.c (.bool false)))]
def r6:=[m 35 7,o 36 (.c4 36 1 [(.c (.int .u32 (1)))]),o 37 (.call 103 [35,36]),o 38 (.a7 3 1),q 39 [36] (.ld false 1 38),m 40 8,
 o 41 (.call 104 [39,40]),m 7 37,m 8 41]
def r7:=[o 42 (.a7 2 0),o 43 (.ld false 1 42),o 44 (.a7 3 0),o 45 (.ld false 1 44),o 46 (.beq true 43 45),m 47 7,
 o 48 (.build [(.bool false),.nil] [(0,1,46),(1,1,47)]),o 49 (.call 111 [48]),m 50 8,o 51 (.build [(.bool false),.nil] [(1,1,50)]),n (.st 2 4 49),
 n (.st 2 5 51),o 6 (.a8 (k 0))]
def c:=(s (d r0 [0,1,6]) (s (e r1 [10,11,12,13]) (s (d r2 [14,15,16,17,18,19,20,21,22]) (s (s (d r3 [23]) (i 24 (s (d r4 [2,3,7,8,9,24,25,26,27]) .ret) .skip)) (s (s (d r5 [9,24,28,29,30,31,32,33]) (i 34 (e r6 [34,35,36,37,38,39,40,41]) .skip)) (s (d r7 [2,3,7,8,34,42,43,44,45,46,47,48,49,50,51]) .ret))))))
end Q7
def Q7:AFn:=⟨2,Q7.c,[.cell 4 true 2,.cell 5 true 2,.tmp 6],false⟩
namespace Q8
def r0:=[o 2 (.box 2 0),o 3 (.box 3 1),o 4 (.alloc 4 [(.bool false),.nil])]
def r1:=[o 5 (.a7 2 1),o 6 (.ld false 1 5),o 7 (.a7 3 1),o 8 (.ld false 1 7),o 9 (.call 110 [6,8]),o 10 (.build [(.bool false),.nil] [(1,1,9)]),
 n (.st 2 4 10)]
def c:=(s (d r0 [0,1]) (s (d r1 [2,3,5,6,7,8,9,10]) .ret))
end Q8
def Q8:AFn:=⟨2,Q8.c,[.cell 4 true 2],false⟩
namespace LT
def r0:=[o 2 (.box 2 0),o 3 (.box 3 1),o 4 (.alloc 4 [(.bool false),.nil,.nil])]
def r1:=[o 12 (.ld true 2 2),o 13 (.call 113 [12]),o 14 (.bin .eql 13 (k 0)),m 15 14,g 16 15 false (.ld true 2 3),g 17 15 false (.call 113 [16]),
 g 18 15 false (.bin .eql 17 (k 0)),o 19 (.pick 15 (.c (.bool true)) 18)]
def r2:=[o 20 (.c4 20 1 [(.c (.int .u32 (1)))]),o 21 (.build [(.bool false),.nil,.nil] [(2,1,20)]),n (.st 3 4 21)]
def r3:=[o 22 (.ld true 2 2),o 23 (.ld true 2 3),o 24 (.call 120 [22,23]),o 5 (.alloc 5 [(.bool false),.nil]),n (.st 2 5 24)]
def r4:=[o 26 (.ld true 2 2),o 27 (.ld true 2 5),o 28 (.call 119 [26,27]),m 25 28,o 29 (.ext 25 0),o 30 (.ext 25 1),o 31 (.ext 25 2),
 o 6 (.alloc 6 [(.bool false),.nil]),o 7 (.alloc 7 [(.bool false),.nil]),n (.st 2 6 29),n (.st 2 7 30),m 8 31]
def r5:=[o 33 (.ld true 2 3),o 34 (.ld true 2 5),o 35 (.call 119 [33,34]),m 32 35,o 36 (.ext 32 0),o 37 (.ext 32 1),o 38 (.ext 32 2),
 o 9 (.alloc 9 [(.bool false),.nil]),o 10 (.alloc 10 [(.bool false),.nil]),n (.st 2 9 36),n (.st 2 10 37),m 11 38]
def r6:=[o 39 (.a7 9 0),o 40 (.ld false 1 39)]
def r7:=[o 41 (.ld true 2 6),o 42 (.call 114 [41]),n (.st 2 6 42)]
def r8:=[o 43 (.ld true 2 6),o 44 (.a7 9 1),o 45 (.ld false 1 44),o 46 (.build [(.bool false),.nil,.nil] [(0,2,43),(2,1,45)]),n (.st 3 4 46)]
def c:=(s (d r0 [0,1]) (s (s (d r1 [12,13,14,15,16,17,18]) (i 19 (s (d r2 [2,3,19,20,21]) .ret) .skip)) (s (d r3 [19,22,23,24]) (s (d r4 [2,7,8,25,26,27,28,29,30,31]) (s (d r5 [3,5,10,11,32,33,34,35,36,37,38]) (s (s (d r6 [39]) (i 40 (d r7 [40,41,42]) .skip)) (s (d r8 [6,9,40,43,44,45,46]) .ret)))))))
end LT
def LT:AFn:=⟨2,LT.c,[.cell 4 true 3],false⟩
namespace M8
def r0:=[o 1 (.box 1 0),o 2 (.alloc 2 [(.bool false),.nil]),o 3 (.alloc 3 [(.bool false),.nil])]
def r1:=[o 5 (.a7 1 2),o 6 (.ld false 1 5),o 7 (.call 101 [6]),o 8 (.build [(.bool false),.nil] [(1,1,7)]),o 4 (.alloc 4 [(.bool false),.nil]),n (.st 2 4 8)]
def r2:=[o 9 (.a7 4 1),o 10 (.ld false 1 9),o 11 (.len 10),o 12 (.bin .eql 11 (k 0))]
def r3:=[o 13 (.build [(.bool false),.nil] []),o 14 (.c4 14 1 [(.c (.int .u32 (1)))]),o 15 (.build [(.bool false),.nil] [(1,1,14)]),n (.st 2 2 13),
 n (.st 2 3 15)]
def r4:=[o 16 (.a7 1 0),o 17 (.ld true 2 16),q 18 [2] (.ld true 2 4),n (.gu 2 2 2 17),n (.st 2 3 18)]
def c:=(s (d r0 [0]) (s (d r1 [5,6,7,8]) (s (s (d r2 [9,10,11]) (i 12 (s (d r3 [1,4,12,13,14,15]) .ret) .skip)) (s (e r4 [1,4,12,16,17,18]) .ret))))
end M8
def M8:AFn:=⟨1,M8.c,[.cell 2 true 2,.cell 3 true 2],false⟩
namespace R3
def r0:=[o 1 (.box 1 0),o 2 (.alloc 2 [(.bool false),.nil,.nil])]
def r1:=[o 6 (.ld true 3 1),o 7 (.call 122 [6]),m 5 7,o 8 (.ext 5 0),o 9 (.ext 5 1),o 3 (.alloc 3 [(.bool false),.nil]),o 4 (.alloc 4 [(.bool false),.nil]),
 n (.st 2 3 8),n (.st 2 4 9)]
def r2:=[o 10 (.ld true 2 3),o 11 (.ld true 2 4),o 12 (.call 121 [10,11]),n (.st 3 2 12)]
def c:=(s (d r0 [0]) (s (d r1 [1,5,6,7,8,9]) (s (d r2 [3,4,10,11,12]) .ret)))
end R3
def R3:AFn:=⟨1,R3.c,[.cell 2 true 3],false⟩
namespace RO
def r0:=[o 2 (.alloc 2 [(.bool false),.nil,.nil])]
def r1:=[m 3 0,o 4 (.call 112 [3]),o 5 (.c4 5 1 [(.c (.int .u32 (1)))]),o 6 (.build [(.bool false),.nil,.nil] [(0,2,4),(2,1,5)]),n (.st 3 2 6)]
def c:=(s (p r0) (s (d r1 [0,3,4,5,6]) .ret))
end RO
def RO:AFn:=⟨1,RO.c,[.cell 2 true 3],false⟩
namespace RK
def r0:=[o 4 (.alloc 4 [(.bool false),.nil,.nil])]
def r1:=[m 5 0,o 6 (.call 112 [5]),m 7 1,o 8 (.call 112 [7]),o 9 (.call 121 [6,8]),n (.st 3 4 9)]
def c:=(s (p r0) (s (d r1 [0,1,5,6,7,8,9]) .ret))
end RK
def RK:AFn:=⟨2,RK.c,[.cell 4 true 3],false⟩
namespace RH
def r0:=[o 2 (.box 2 0),o 3 (.box 3 1),o 4 (.alloc 4 [(.bool false),.nil,.nil])]
def r1:=[o 10 (.ld true 3 2),o 11 (.call 122 [10]),m 9 11,o 12 (.ext 9 0),o 13 (.ext 9 1),o 5 (.alloc 5 [(.bool false),.nil]),
 o 6 (.alloc 6 [(.bool false),.nil]),n (.st 2 5 12),n (.st 2 6 13)]
def r2:=[o 15 (.ld true 3 3),o 16 (.call 122 [15]),m 14 16,o 17 (.ext 14 0),o 18 (.ext 14 1),o 7 (.alloc 7 [(.bool false),.nil]),
 o 8 (.alloc 8 [(.bool false),.nil]),n (.st 2 7 17),n (.st 2 8 18)]
def r3:=[o 19 (.ld true 2 5),o 20 (.ld true 2 8),o 21 (.call 118 [19,20]),o 22 (.ld true 2 7),o 23 (.ld true 2 6),o 24 (.call 118 [22,23]),
 o 25 (.call 115 [21,24]),o 26 (.ld true 2 6),o 27 (.ld true 2 8),o 28 (.call 118 [26,27]),o 29 (.call 121 [25,28]),n (.st 3 4 29)]
def c:=(s (d r0 [0,1]) (s (d r1 [2,9,10,11,12,13]) (s (d r2 [3,14,15,16,17,18]) (s (e r3 [5,6,7,8,19,20,21,22,23,24,25,26,27,28,29]) .ret))))
end RH
def RH:AFn:=⟨2,RH.c,[.cell 4 true 3],false⟩
namespace RI
def r0:=[o 2 (.box 2 0),o 3 (.box 3 1),o 4 (.a8 (k 0))]
def r1:=[o 10 (.ld true 3 2),o 11 (.call 122 [10]),m 9 11,o 12 (.ext 9 0),o 13 (.ext 9 1),o 5 (.alloc 5 [(.bool false),.nil]),
 o 6 (.alloc 6 [(.bool false),.nil]),n (.st 2 5 12),n (.st 2 6 13)]
def r2:=[o 15 (.ld true 3 3),o 16 (.call 122 [15]),m 14 16,o 17 (.ext 14 0),o 18 (.ext 14 1),o 7 (.alloc 7 [(.bool false),.nil]),
 o 8 (.alloc 8 [(.bool false),.nil]),n (.st 2 7 17),n (.st 2 8 18)]
def r3:=[o 19 (.ld true 2 5),o 20 (.ld true 2 8),o 21 (.call 118 [19,20]),o 22 (.ld true 2 7),o 23 (.ld true 2 6),o 24 (.call 118 [22,23]),
 o 25 (.call 117 [21,24]),m 4 25]
def c:=(s (d r0 [0,1,4]) (s (d r1 [2,9,10,11,12,13]) (s (d r2 [3,14,15,16,17,18]) (s (e r3 [5,6,7,8,19,20,21,22,23,24,25]) .ret))))
end RI
def RI:AFn:=⟨2,RI.c,[.tmp 4],false⟩
namespace RM
def r0:=[o 2 (.box 2 0),o 3 (.box 3 1),o 4 (.alloc 4 [(.bool false),.nil,.nil])]
def r1:=[o 10 (.ld true 3 2),o 11 (.call 122 [10]),m 9 11,o 12 (.ext 9 0),o 13 (.ext 9 1),o 5 (.alloc 5 [(.bool false),.nil]),
 o 6 (.alloc 6 [(.bool false),.nil]),n (.st 2 5 12),n (.st 2 6 13)]
def r2:=[o 15 (.ld true 3 3),o 16 (.call 122 [15]),m 14 16,o 17 (.ext 14 0),o 18 (.ext 14 1),o 7 (.alloc 7 [(.bool false),.nil]),
 o 8 (.alloc 8 [(.bool false),.nil]),n (.st 2 7 17),n (.st 2 8 18)]
def r3:=[o 19 (.ld true 2 5),o 20 (.ld true 2 7),o 21 (.call 118 [19,20]),o 22 (.ld true 2 6),o 23 (.ld true 2 8),o 24 (.call 118 [22,23]),
 o 25 (.call 121 [21,24]),n (.st 3 4 25)]
def c:=(s (d r0 [0,1]) (s (d r1 [2,9,10,11,12,13]) (s (d r2 [3,14,15,16,17,18]) (s (e r3 [5,6,7,8,19,20,21,22,23,24,25]) .ret))))
end RM
def RM:AFn:=⟨2,RM.c,[.cell 4 true 3],false⟩
namespace SC
def r0:=[o 4 (.a8 (.c (.bool false)))]
def r1:=[m 6 0,o 7 (.len 6),m 8 1,o 9 (.len 8),o 10 (.bin .neq 7 9)]
def r2:=[o 4 (.a8 (.c (.bool false)))]
def r3:=[o 5 (.a8 (k 0))]
def r4:=[m 11 5,m 12 0,o 13 (.len 12),o 14 (.bin .lss 11 13)]
def r6:=[m 17 0,m 18 5,o 19 (.a4 none 3 17 18),o 20 (.ld true 3 19),m 21 1,m 22 5,o 23 (.a4 none 3 21 22),o 24 (.ld true 3 23),o 25 (.call 127 [20,24]),
 o 26 (.bin .neq 25 (k 0))]
def r7:=[o 4 (.a8 (.c (.bool false)))]
def r5:=[m 15 5,o 16 (.bin .add 15 (k 1)),m 5 16]
def r8:=[o 4 (.a8 (.c (.bool true)))]
def l1:=(s (s (d r4 [11,12,13]) (i 14 .skip (x 0))) (s (b 1 (s (e r6 [14,17,18,19,20,21,22,23,24,25]) (i 26 (s (d r7 [0,1,5,26]) .ret) .skip))) (d r5 [15,16,26])))
def c:=(s (d r0 [4]) (s (s (d r1 [6,7,8,9]) (i 10 (s (d r2 [0,1,10]) .ret) .skip)) (s (s (d r3 [10]) (b 0 (w l1))) (s (d r8 [0,1,5,14]) .ret))))
end SC
def SC:AFn:=⟨2,SC.c,[.tmp 4],false⟩
structure a9 (L:Lib):Prop where
 KU:L 101=some F.KU
 QZ:L 102=some F.QZ
 QX:L 103=some F.QX
 MF:L 104=some F.MF
 Q2:L 105=some F.Q2
 QY:L 106=some F.QY
 LS:L 107=some F.LS
 Q4:L 108=some F.Q4
 GG:L 109=some F.GG
 Q1:L 110=some F.Q1
 RF:L 111=some F.RF
 RB:L 112=some F.RB
 RD:L 113=some F.RD
 RA:L 114=some F.RA
 Q5:L 115=some F.Q5
 RE:L 116=some F.RE
 Q6:L 117=some F.Q6
 Q9:L 118=some F.Q9
 Q7:L 119=some F.Q7
 Q8:L 120=some F.Q8
 LT:L 121=some F.LT
 M8:L 122=some F.M8
 R3:L 123=some F.R3
 RO:L 124=some F.RO
 RK:L 125=some F.RK
 RH:L 126=some F.RH
 RI:L 127=some F.RI
 RM:L 128=some F.RM
 SC:L 129=some F.SC
end Go.Eng.F
namespace Go.Eng.F
open C
namespace P2
def r0:=[o 1 (.box 1 0),o 2 (.a8 (.c (.bool false)))]
def r1:=[o 6 (.a7 1 0),o 7 (.ld false 1 6),o 8 (.len 7),m 3 8]
def r2:=[m 9 3,o 10 (.bin .gtr 9 (k 64)),m 11 10,g 12 11 false (.a7 1 1),g 13 11 false (.ld false 1 12),g 14 11 false (.len 13),g 15 11 false (.a8 3),
 g 16 11 false (.bin .neq 14 15),o 17 (.pick 11 (.c (.bool true)) 16),m 18 17,g 19 18 false (.a7 1 2),g 20 18 false (.ld false 1 19),
 g 21 18 false (.len 20),g 22 18 false (.a8 3),g 23 18 false (.bin .neq 21 22),o 24 (.pick 18 (.c (.bool true)) 23)]
def r3:=[o 2 (.a8 (.c (.bool false)))]
def r4:=[o 25 (.a7 1 0),o 26 (.ld false 1 25),o 27 (.len 26),o 28 (.a8 (k 0))]
def r5:=[o 29 (.bin .lss 28 27)]
def r6:=[o 30 (.a4 none 1 26 28),o 31 (.ld false 1 30),m 5 31]
def r7:=[m 32 5,o 33 (.len 32),m 34 3,o 35 (.bin .neq 33 34)]
def r8:=[o 2 (.a8 (.c (.bool false)))]
def r9:=[o 36 (.bin .add 28 (k 1)),m 28 36]
def DQ:=[o 2 (.a8 (.c (.bool true)))]
def l1:=(s (p r5) (s (i 29 .skip (x 0)) (s (b 1 (s (d r6 [29,30,31]) (s (d r7 [5,32,33,34]) (i 35 (s (d r8 [3,26,27,28,35]) .ret) .skip)))) (d r9 [35,36]))))
def c:=(s (d r0 [0,2]) (s (d r1 [6,7,8]) (s (s (d r2 [9,10,11,12,13,14,15,16,17,18,19,20,21,22,23]) (i 24 (s (d r3 [1,3,24]) .ret) .skip)) (s (s (d r4 [1,24,25]) (b 0 (w l1))) (s (d DQ [3,26,27,28,29]) .ret)))))
end P2
def P2:AFn:=⟨1,P2.c,[.tmp 2],false⟩
namespace P9
def r0:=[o 2 (.a8 (.c .nil))]
def r1:=[m 5 0,o 6 (.mk 131006 3 56 [(.bool false),.nil,.nil] 5 5),m 3 6]
def r2:=[m 7 3,o 8 (.len 7),o 9 (.a8 (k 0))]
def r3:=[o 10 (.bin .lss 9 8)]
def r4:=[m 11 9,m 4 11]
def r5:=[m 12 3,m 13 4,o 14 (.call 96 [(k 0)]),o 15 (.a4 none 3 12 13),n (.st 3 15 14)]
def r6:=[o 16 (.bin .add 9 (k 1)),m 9 16]
def r7:=[m 17 3,m 2 17]
def l1:=(s (p r3) (s (i 10 .skip (x 0)) (s (b 1 (s (d r4 [10,11]) (d r5 [4,12,13,14,15]))) (d r6 [16]))))
def c:=(s (d r0 [2]) (s (d r1 [0,5,6]) (s (s (d r2 [7]) (b 0 (w l1))) (s (d r7 [3,8,9,10,17]) .ret))))
end P9
def P9:AFn:=⟨1,P9.c,[.tmp 2],false⟩
namespace P5
def r0:=[o 4 (.alloc 4 [(.bool false),.nil,.nil])]
def r1:=[o 8 (.call 96 [(k 0)]),o 5 (.alloc 5 [(.bool false),.nil,.nil]),n (.st 3 5 8)]
def r2:=[m 9 0,o 10 (.len 9),o 11 (.a8 (k 0))]
def r3:=[o 12 (.bin .lss 11 10)]
def r4:=[m 13 11,o 14 (.a4 none 3 9 11),o 15 (.ld true 3 14),o 7 (.alloc 7 [(.bool false),.nil,.nil]),m 6 13,n (.st 3 7 15)]
def r5:=[o 16 (.ld true 3 7),o 17 (.call 97 [16]),o 18 (.bin .neq 17 (k 0)),m 19 18,g 20 19 true (.a8 1),g 21 19 true (.a8 6),g 22 19 true (.a4 none 3 20 21),
 g 23 19 true (.ld true 3 22),g 24 19 true (.call 97 [23]),g 25 19 true (.bin .neq 24 (k 0)),o 26 (.pick 19 25 (.c (.bool false)))]
def r6:=[o 27 (.ld true 3 5),o 28 (.ld true 3 7),m 29 1,m 30 6,o 31 (.a4 none 3 29 30),o 32 (.ld true 3 31),o 33 (.call 99 [28,32]),o 34 (.call 98 [27,33]),
 n (.st 3 5 34)]
def r7:=[o 35 (.bin .add 11 (k 1)),m 11 35]
def r8:=[o 36 (.ld true 3 5),n (.st 3 4 36)]
def l1:=(s (p r3) (s (i 12 .skip (x 0)) (s (b 1 (s (d r4 [12,13,14,15]) (s (d r5 [16,17,18,19,20,21,22,23,24,25]) (i 26 (e r6 [6,7,26,27,28,29,30,31,32,33,34]) .skip)))) (d r7 [6,7,26,35]))))
def c:=(s (p r0) (s (d r1 [8]) (s (s (d r2 [0]) (b 0 (w l1))) (s (d r8 [1,5,9,10,11,12,36]) .ret))))
end P5
def P5:AFn:=⟨2,P5.c,[.cell 4 true 3],false⟩
namespace SF
def r0:=[o 1 (.box 1 0),o 2 (.a8 (.c (.bool false)))]
def r1:=[o 5 (.a7 1 0),o 6 (.ld false 1 5),o 7 (.len 6),m 3 7]
def r2:=[m 8 3,o 9 (.bin .gtr 8 (k 64)),m 10 9,g 11 10 false (.a7 1 1),g 12 10 false (.ld false 1 11),g 13 10 false (.len 12),g 14 10 false (.a8 3),
 g 15 10 false (.bin .neq 13 14),o 16 (.pick 10 (.c (.bool true)) 15),m 17 16,g 18 17 false (.a7 1 2),g 19 17 false (.ld false 1 18),
 g 20 17 false (.len 19),g 21 17 false (.a8 3),g 22 17 false (.bin .neq 20 21),o 23 (.pick 17 (.c (.bool true)) 22)]
def r3:=[o 2 (.a8 (.c (.bool false)))]
def r4:=[o 4 (.a8 (k 0))]
def r5:=[m 24 4,m 25 3,o 26 (.bin .lss 24 25)]
def r7:=[o 29 (.a7 1 0),o 30 (.ld false 1 29),m 31 4,o 32 (.a4 none 1 30 31),o 33 (.ld false 1 32),o 34 (.len 33),m 35 3,o 36 (.bin .neq 34 35)]
def r8:=[o 2 (.a8 (.c (.bool false)))]
def r6:=[m 27 4,o 28 (.bin .add 27 (k 1)),m 4 28]
def r9:=[o 2 (.a8 (.c (.bool true)))]
def l1:=(s (s (d r5 [24,25]) (i 26 .skip (x 0))) (s (b 1 (s (d r7 [26,29,30,31,32,33,34,35]) (i 36 (s (d r8 [1,3,4,36]) .ret) .skip))) (d r6 [27,28,36])))
def c:=(s (d r0 [0,2]) (s (d r1 [5,6,7]) (s (s (d r2 [8,9,10,11,12,13,14,15,16,17,18,19,20,21,22]) (i 23 (s (d r3 [1,3,23]) .ret) .skip)) (s (s (d r4 [23]) (b 0 (w l1))) (s (d r9 [1,3,4,26]) .ret)))))
end SF
def SF:AFn:=⟨1,SF.c,[.tmp 2],false⟩
namespace SD
def r0:=[o 4 (.alloc 4 [(.bool false),.nil,.nil])]
def r1:=[o 7 (.call 124 [(k 0)]),o 5 (.alloc 5 [(.bool false),.nil,.nil]),n (.st 3 5 7)]
def r2:=[o 6 (.a8 (k 0))]
def r3:=[m 8 6,m 9 0,o 10 (.len 9),o 11 (.bin .lss 8 10)]
def r5:=[o 14 (.ld true 3 5),m 15 0,m 16 6,o 17 (.a4 none 3 15 16),o 18 (.ld true 3 17),m 19 1,m 20 6,o 21 (.a4 none 3 19 20),o 22 (.ld true 3 21),
 o 23 (.call 128 [18,22]),o 24 (.call 126 [14,23]),n (.st 3 5 24)]
def r4:=[m 12 6,o 13 (.bin .add 12 (k 1)),m 6 13]
def r6:=[o 25 (.ld true 3 5),n (.st 3 4 25)]
def l1:=(s (s (d r3 [8,9,10]) (i 11 .skip (x 0))) (s (b 1 (e r5 [11,14,15,16,17,18,19,20,21,22,23,24])) (d r4 [12,13])))
def c:=(s (p r0) (s (d r1 [7]) (s (s (p r2) (b 0 (w l1))) (s (d r6 [0,1,5,6,11,25]) .ret))))
end SD
def SD:AFn:=⟨2,SD.c,[.cell 4 true 3],false⟩
namespace SG
def r0:=[o 4 (.a8 (.c .nil))]
def r1:=[o 5 (.q7 138005 3)]
def r2:=[o 6 (.a8 (k 0))]
def r3:=[m 7 6,m 8 0,o 9 (.len 8),o 10 (.bin .lss 7 9)]
def r5:=[m 13 5,m 14 0,m 15 6,o 16 (.a4 none 1 14 15),o 17 (.ld false 1 16),m 18 1,o 19 (.call 137 [17,18]),o 20 (.c4 138020 3 [19]),
 o 21 (.app 138021 3 56 13 20),m 5 21]
def r4:=[m 11 6,o 12 (.bin .add 11 (k 1)),m 6 12]
def r6:=[m 22 5,m 4 22]
def l1:=(s (s (d r3 [7,8,9]) (i 10 .skip (x 0))) (s (b 1 (d r5 [10,13,14,15,16,17,18,19,20,21])) (d r4 [11,12])))
def c:=(s (d r0 [4]) (s (p r1) (s (s (p r2) (b 0 (w l1))) (s (d r6 [0,1,5,6,10,22]) .ret))))
end SG
def SG:AFn:=⟨2,SG.c,[.tmp 4],false⟩
structure m9 (L:Lib):Prop extends a5 L,a9 L where
 P2:L 130=some F.P2
 P9:L 131=some F.P9
 P5:L 132=some F.P5
 SF:L 136=some F.SF
 SD:L 137=some F.SD
 SG:L 138=some F.SG
end Go.Eng.F

namespace Go.Eng.F
open C
structure dh (L:Lib):Prop where
structure ik (L:Lib):Prop extends dh L where
end Go.Eng.F

namespace Go.Eng.F
open C
namespace P8
def r0:=[o 2 (.alloc 145002 [.nil,.nil,.nil,(.bool false),.nil,.nil])]
def r1:=[m 5 0,o 6 (.mk 145006 1 24 [.nil] 5 5),m 7 0,q 8 [145006,145003] (.o0 145008 131 [7]),m 9 0,
 q 10 [145006,145003] (.o0 145010 131 [9]),q 11 [145006,145003] (.call 96 [(k 0)]),
 o 12 (.build [.nil,.nil,.nil,(.bool false),.nil,.nil] [(0,1,6),(1,1,8),(2,1,10),(3,3,11)]),
 o 3 (.alloc 145003 [.nil,.nil,.nil,(.bool false),.nil,.nil]),n (.st 6 3 12)]
def r2:=[o 13 (.a7 3 0),o 14 (.ld false 1 13),o 15 (.len 14),o 16 (.a8 (k 0))]
def r3:=[o 17 (.bin .lss 16 15)]
def r4:=[m 18 16,m 4 18]
def r5:=[o 19 (.a7 3 0),q 20 [145023] (.ld false 1 19),m 21 4,m 22 0,o 23 (.o0 145023 131 [22]),o 24 (.a4 none 1 20 21),n (.st 1 24 23)]
def r6:=[o 25 (.bin .add 16 (k 1)),m 16 25]
def r7:=[o 26 (.ld true 6 3),n (.st 6 2 26)]
def l1:=(s (p r3) (s (i 17 .skip (x 0)) (s (b 1 (s (d r4 [17,18]) (e r5 [4,19,20,21,22,23,24]))) (d r6 [25]))))
def c:=(s (p r0) (s (e r1 [5,6,7,8,9,10,11,12]) (s (s (d r2 [13,14]) (b 0 (w l1))) (s (d r7 [0,3,15,16,17,26]) .ret))))
end P8
def P8:AFn:=⟨1,P8.c,[.cell 2 true 6],false⟩
structure fe (L:Lib):Prop extends m9 L,ik L where
 P8:L 145=some F.P8
end Go.Eng.F

namespace Go.Eng.F
open C
namespace QT
def r0:=[o 1 (.box 1 0),o 2 (.alloc 2 [(.bool false),.nil,.nil])]
def r1:=[o 3 (.a7 1 0),o 4 (.a7 3 0),o 5 (.ld false 1 4),o 6 (.un .not 5),o 7 (.a7 1 0),o 8 (.a7 7 1),o 9 (.ld false 1 8),
 o 10 (.build [(.bool false),.nil] [(0,1,6),(1,1,9)]),o 11 (.a7 1 2),o 12 (.ld false 1 11),
 o 13 (.build [(.bool false),.nil,.nil] [(0,2,10),(2,1,12)]),n (.st 3 2 13)]
def c:=(s (d r0 [0]) (s (d r1 [1,3,4,5,6,7,8,9,10,11,12,13]) .ret))
end QT
def QT:AFn:=⟨1,QT.c,[.cell 2 true 3],false⟩
namespace QR
def r0:=[o 2 (.box 2 0),o 3 (.box 3 1),o 4 (.alloc 4 [(.bool false),.nil,.nil])]
def r1:=[o 5 (.ld true 3 2),o 6 (.ld true 3 3),o 7 (.l9 149 [6]),o 8 (.call 98 [5,7]),n (.st 3 4 8)]
def c:=(s (d r0 [0,1]) (s (e r1 [2,3,5,6,7,8]) .ret))
end QR
def QR:AFn:=⟨2,QR.c,[.cell 4 true 3],false⟩
namespace QM
def r0:=[o 4 (.alloc 4 [(.bool false),.nil,.nil])]
def r1:=[m 5 1,o 6 (.bin .eql 5 (k 0))]
def r2:=[o 7 (.call 96 [(k 0)]),n (.st 3 4 7)]
def r3:=[m 8 0,o 9 (.call 85 [8]),m 10 1,o 11 (.call 85 [10]),o 12 (.c8 93 [9,11]),o 13 (.call 94 [12]),n (.st 3 4 13)]
def c:=(s (p r0) (s (s (d r1 [5]) (i 6 (s (d r2 [0,1,6,7]) .ret) .skip)) (s (d r3 [0,1,6,8,9,10,11,12,13]) .ret)))
end QM
def QM:AFn:=⟨2,QM.c,[.cell 4 true 3],false⟩
structure o5 (L:Lib):Prop extends a5 L where
 QT:L 149=some F.QT
 QR:L 150=some F.QR
 QM:L 151=some F.QM
end Go.Eng.F

namespace Go.Eng.F
open C
namespace KR
def r0:=[o 2 (.a8 (.c .nil))]
def r1:=[m 4 0,o 5 (.len 4),m 3 5]
def r2:=[m 6 3,o 7 (.bin .gtr 6 (k 0)),m 8 7,g 9 8 true (.a8 0),g 10 8 true (.a8 3),g 11 8 true (.bin .sub 10 (k 1)),g 12 8 true (.a4 none 3 9 11),
 g 13 8 true (.ld true 3 12),g 14 8 true (.call 97 [13]),g 15 8 true (.bin .eql 14 (k 0)),o 16 (.pick 8 15 (.c (.bool false)))]
def r3:=[m 17 3,o 18 (.bin .sub 17 (k 1)),m 3 18]
def r4:=[m 19 0,m 20 3,o 21 (.ay 3 19 none (some 20)),m 2 21]
def l1:=(s (s (d r2 [6,7,8,9,10,11,12,13,14,15]) (i 16 .skip (x 0))) (b 1 (d r3 [16,17,18])))
def c:=(s (d r0 [2]) (s (d r1 [4,5]) (s (b 0 (w l1)) (s (d r4 [0,3,16,19,20,21]) .ret))))
end KR
def KR:AFn:=⟨1,KR.c,[.tmp 2],false⟩
namespace QI
def r0:=[o 2 (.a8 (.c .nil))]
def r1:=[m 5 0,o 6 (.c8 169 [5]),o 7 (.len 6),o 8 (.mk 170008 3 56 [(.bool false),.nil,.nil] 7 7),m 3 8]
def r2:=[m 9 3,o 10 (.len 9),o 11 (.a8 (k 0))]
def r3:=[o 12 (.bin .lss 11 10)]
def r4:=[m 13 11,m 4 13]
def r5:=[m 14 3,m 15 4,m 16 0,m 17 4,o 18 (.a4 none 3 16 17),o 19 (.ld true 3 18),o 20 (.call 95 [19]),o 21 (.a4 none 3 14 15),n (.st 3 21 20)]
def r6:=[o 22 (.bin .add 11 (k 1)),m 11 22]
def r7:=[m 23 3,m 2 23]
def l1:=(s (p r3) (s (i 12 .skip (x 0)) (s (b 1 (s (d r4 [12,13]) (d r5 [4,14,15,16,17,18,19,20,21]))) (d r6 [22]))))
def c:=(s (d r0 [2]) (s (d r1 [5,6,7,8]) (s (s (d r2 [9]) (b 0 (w l1))) (s (d r7 [0,3,10,11,12,23]) .ret))))
end QI
def QI:AFn:=⟨1,QI.c,[.tmp 2],false⟩
structure z8 (L:Lib):Prop extends a5 L where
 KR:L 169=some F.KR
 QI:L 170=some F.QI
end Go.Eng.F

namespace Go.Eng.F
open C
namespace RN
def r0:=[o 1 (.box 1 0),o 2 (.alloc 2 [(.bool false),.nil,.nil])]
def r1:=[o 3 (.ld true 3 1),o 4 (.call 123 [3]),n (.st 3 1 4)]
def r2:=[o 5 (.a7 1 0),o 6 (.ld true 2 5),o 7 (.call 114 [6]),o 8 (.a7 1 0),n (.st 2 8 7)]
def r3:=[o 9 (.ld true 3 1),n (.st 3 2 9)]
def c:=(s (d r0 [0]) (s (d r1 [3,4]) (s (d r2 [5,6,7,8]) (s (d r3 [1,9]) .ret))))
end RN
def RN:AFn:=⟨1,RN.c,[.cell 2 true 3],false⟩
namespace RZ
def r0:=[o 2 (.box 2 0),o 3 (.box 3 1),o 4 (.alloc 4 [(.bool false),.nil,.nil])]
def r1:=[o 5 (.ld true 3 2),o 6 (.ld true 3 3),o 7 (.call 152 [6]),o 8 (.call 126 [5,7]),n (.st 3 4 8)]
def c:=(s (d r0 [0,1]) (s (e r1 [2,3,5,6,7,8]) .ret))
end RZ
def RZ:AFn:=⟨2,RZ.c,[.cell 4 true 3],false⟩
namespace RJ
def r0:=[o 2 (.box 2 0),o 3 (.box 3 1),o 4 (.alloc 4 [(.bool false),.nil,.nil]),o 5 (.a8 (k 0))]
def r1:=[o 11 (.ld true 3 2),o 12 (.call 122 [11]),m 10 12,o 13 (.ext 10 0),o 14 (.ext 10 1),o 6 (.alloc 6 [(.bool false),.nil]),
 o 7 (.alloc 7 [(.bool false),.nil]),n (.st 2 6 13),n (.st 2 7 14)]
def r2:=[o 16 (.ld true 3 3),o 17 (.call 122 [16]),m 15 17,o 18 (.ext 15 0),o 19 (.ext 15 1),o 8 (.alloc 8 [(.bool false),.nil]),
 o 9 (.alloc 9 [(.bool false),.nil]),n (.st 2 8 18),n (.st 2 9 19)]
def r3:=[o 20 (.ld true 2 8),o 21 (.call 113 [20]),o 22 (.bin .eql 21 (k 0))]
def r4:=[o 23 (.build [(.bool false),.nil,.nil] []),n (.st 3 4 23),o 5 (.a8 (k 3))]
def r5:=[o 24 (.ld true 2 6),o 25 (.ld true 2 9),o 26 (.call 118 [24,25]),o 27 (.ld true 2 7),o 28 (.ld true 2 8),o 29 (.call 118 [27,28]),
 o 30 (.call 121 [26,29]),n (.st 3 4 30),o 5 (.a8 (k 0))]
def c:=(s (d r0 [0,1,5]) (s (d r1 [2,10,11,12,13,14]) (s (d r2 [3,15,16,17,18,19]) (s (s (d r3 [20,21]) (i 22 (s (d r4 [6,7,8,9,22,23]) .ret) .skip)) (s (e r5 [6,7,8,9,22,24,25,26,27,28,29,30]) .ret)))))
end RJ
def RJ:AFn:=⟨2,RJ.c,[.cell 4 true 3,.tmp 5],false⟩
namespace RS
def r0:=[o 1 (.box 1 0),o 2 (.a8 (k 0))]
def r1:=[o 6 (.ld true 3 1),o 7 (.call 122 [6]),m 5 7,o 8 (.ext 5 0),o 9 (.ext 5 1),o 3 (.alloc 3 [(.bool false),.nil]),o 4 (.alloc 4 [(.bool false),.nil]),
 n (.st 2 3 8),n (.st 2 4 9)]
def r2:=[o 10 (.ld true 2 3),o 11 (.call 113 [10]),m 2 11]
def c:=(s (d r0 [0,2]) (s (d r1 [1,4,5,6,7,8,9]) (s (d r2 [3,10,11]) .ret)))
end RS
def RS:AFn:=⟨1,RS.c,[.tmp 2],false⟩
namespace Q3
def r0:=[o 4 (.a8 (.c (.bool false)))]
def r1:=[m 6 0,o 7 (.len 6),m 8 1,o 9 (.len 8),o 10 (.bin .neq 7 9)]
def r2:=[o 4 (.a8 (.c (.bool false)))]
def r3:=[o 5 (.a8 (k 0))]
def r4:=[m 11 5,m 12 0,o 13 (.len 12),o 14 (.bin .lss 11 13)]
def r6:=[m 17 0,m 18 5,o 19 (.a4 none 1 17 18),o 20 (.ld false 1 19),m 21 1,m 22 5,o 23 (.a4 none 1 21 22),o 24 (.ld false 1 23),o 25 (.bin .neq 20 24)]
def r7:=[o 4 (.a8 (.c (.bool false)))]
def r5:=[m 15 5,o 16 (.bin .add 15 (k 1)),m 5 16]
def r8:=[o 4 (.a8 (.c (.bool true)))]
def l1:=(s (s (d r4 [11,12,13]) (i 14 .skip (x 0))) (s (b 1 (s (e r6 [14,17,18,19,20,21,22,23,24]) (i 25 (s (d r7 [0,1,5,25]) .ret) .skip))) (d r5 [15,16,25])))
def c:=(s (d r0 [4]) (s (s (d r1 [6,7,8,9]) (i 10 (s (d r2 [0,1,10]) .ret) .skip)) (s (s (d r3 [10]) (b 0 (w l1))) (s (d r8 [0,1,5,14]) .ret))))
end Q3
def Q3:AFn:=⟨2,Q3.c,[.tmp 4],false⟩
namespace RC
def r0:=[o 2 (.box 2 0),o 3 (.box 3 1),o 4 (.a8 (.c (.bool false)))]
def r1:=[o 5 (.a7 2 0),o 6 (.ld false 1 5),o 7 (.a7 3 0),o 8 (.ld false 1 7),o 9 (.beq false 6 8),m 10 9,g 11 10 true (.a7 2 1),
 g 12 10 true (.ld false 1 11),g 13 10 true (.a7 3 1),g 14 10 true (.ld false 1 13),g 15 10 true (.call 156 [12,14]),
 o 16 (.pick 10 15 (.c (.bool false))),m 4 16]
def c:=(s (d r0 [0,1,4]) (s (d r1 [2,3,5,6,7,8,9,10,11,12,13,14,15,16]) .ret))
end RC
def RC:AFn:=⟨2,RC.c,[.tmp 4],false⟩
namespace RQ
def r0:=[o 2 (.box 2 0),o 3 (.box 3 1),o 4 (.a8 (.c (.bool false)))]
def r1:=[o 5 (.a7 2 0),o 6 (.ld true 2 5),o 7 (.a7 3 0),o 8 (.ld true 2 7),o 9 (.call 157 [6,8]),m 10 9,g 11 10 true (.a7 2 2),
 g 12 10 true (.ld false 1 11),g 13 10 true (.a7 3 2),g 14 10 true (.ld false 1 13),g 15 10 true (.call 156 [12,14]),
 o 16 (.pick 10 15 (.c (.bool false))),m 4 16]
def c:=(s (d r0 [0,1,4]) (s (d r1 [2,3,5,6,7,8,9,10,11,12,13,14,15,16]) .ret))
end RQ
def RQ:AFn:=⟨2,RQ.c,[.tmp 4],false⟩
namespace RR
def r0:=[o 4 (.a8 (.c (.bool false)))]
def r1:=[m 6 0,o 7 (.len 6),m 8 1,o 9 (.len 8),o 10 (.bin .neq 7 9)]
def r2:=[o 4 (.a8 (.c (.bool false)))]
def r3:=[o 5 (.a8 (k 0))]
def r4:=[m 11 5,m 12 0,o 13 (.len 12),o 14 (.bin .lss 11 13)]
def r6:=[m 17 0,m 18 5,o 19 (.a4 none 3 17 18),o 20 (.ld true 3 19),m 21 1,m 22 5,o 23 (.a4 none 3 21 22),o 24 (.ld true 3 23),o 25 (.call 158 [20,24]),
 o 26 (.un .not 25)]
def r7:=[o 4 (.a8 (.c (.bool false)))]
def r5:=[m 15 5,o 16 (.bin .add 15 (k 1)),m 5 16]
def r8:=[o 4 (.a8 (.c (.bool true)))]
def l1:=(s (s (d r4 [11,12,13]) (i 14 .skip (x 0))) (s (b 1 (s (e r6 [14,17,18,19,20,21,22,23,24,25]) (i 26 (s (d r7 [0,1,5,26]) .ret) .skip))) (d r5 [15,16,26])))
def c:=(s (d r0 [4]) (s (s (d r1 [6,7,8,9]) (i 10 (s (d r2 [0,1,10]) .ret) .skip)) (s (s (d r3 [10]) (b 0 (w l1))) (s (d r8 [0,1,5,14]) .ret))))
end RR
def RR:AFn:=⟨2,RR.c,[.tmp 4],false⟩
structure g9 (L:Lib):Prop extends a9 L where
 RN:L 152=some F.RN
 RZ:L 153=some F.RZ
 RJ:L 154=some F.RJ
 RS:L 155=some F.RS
 Q3:L 156=some F.Q3
 RC:L 157=some F.RC
 RQ:L 158=some F.RQ
 RR:L 159=some F.RR
end Go.Eng.F

namespace Go.Eng.F
open C
namespace R6
def r0:=[o 2 (.a8 (.c .nil))]
def r1:=[m 7 0,o 8 (.len 7),m 3 8]
def r2:=[m 9 3,o 10 (.bin .gtr 9 (k 0)),m 11 10,g 12 11 true (.a8 0),g 13 11 true (.a8 3),g 14 11 true (.bin .sub 13 (k 1)),g 15 11 true (.a4 none 3 12 14),
 g 16 11 true (.ld true 3 15),g 17 11 true (.call 155 [16]),g 18 11 true (.bin .eql 17 (k 0)),o 19 (.pick 11 18 (.c (.bool false)))]
def r3:=[m 20 3,o 21 (.bin .sub 20 (k 1)),m 3 21]
def r4:=[o 4 (.q7 171004 3)]
def r5:=[m 22 0,m 23 3,o 24 (.ay 3 22 none (some 23)),o 25 (.len 24),o 26 (.a8 (k 0))]
def r6:=[o 27 (.bin .lss 26 25)]
def r7:=[o 28 (.a4 none 3 24 26),o 29 (.ld true 3 28),o 6 (.alloc 171006 [(.bool false),.nil,.nil]),n (.st 3 6 29)]
def r8:=[m 30 4,o 31 (.ld true 3 6),o 32 (.call 123 [31]),o 33 (.c4 171033 3 [32]),o 34 (.app 171034 3 56 30 33),m 4 34]
def r9:=[o 35 (.bin .add 26 (k 1)),m 26 35]
def DQ:=[m 36 4,m 2 36]
def l1:=(s (s (d r2 [9,10,11,12,13,14,15,16,17,18]) (i 19 .skip (x 0))) (b 1 (d r3 [19,20,21])))
def l2:=(s (p r6) (s (i 27 .skip (x 2)) (s (b 3 (s (d r7 [27,28,29]) (d r8 [6,30,31,32,33,34]))) (d r9 [35]))))
def c:=(s (d r0 [2]) (s (d r1 [7,8]) (s (b 0 (w l1)) (s (d r4 [19]) (s (s (d r5 [0,3,22,23]) (b 2 (w l2))) (s (d DQ [4,24,25,26,27,36]) .ret))))))
end R6
def R6:AFn:=⟨1,R6.c,[.tmp 2],false⟩
namespace R4
def r0:=[o 4 (.a8 (.c (.bool false)))]
def r1:=[m 5 0,m 6 1,o 7 (.call 159 [5,6]),m 4 7]
def c:=(s (d r0 [4]) (s (d r1 [0,1,5,6,7]) .ret))
end R4
def R4:AFn:=⟨2,R4.c,[.tmp 4],false⟩
namespace R5
def r0:=[o 4 (.a8 (.c (.bool false)))]
def r1:=[m 5 0,o 6 (.call 171 [5]),m 7 1,o 8 (.call 171 [7]),o 9 (.call 172 [6,8]),m 4 9]
def c:=(s (d r0 [4]) (s (d r1 [0,1,5,6,7,8,9]) .ret))
end R5
def R5:AFn:=⟨2,R5.c,[.tmp 4],false⟩
structure v7 (L:Lib):Prop extends g9 L where
 R6:L 171=some F.R6
 R4:L 172=some F.R4
 R5:L 173=some F.R5
end Go.Eng.F

namespace Go.Eng.F
open C
namespace P6
def r0:=[o 4 (.a8 (.c .nil))]
def r1:=[m 11 0,o 12 (.len 11),o 13 (.mk 188013 1 24 [.nil] 12 12),m 5 13]
def r2:=[m 14 0,o 15 (.len 14),o 16 (.mk 188016 3 56 [(.bool false),.nil,.nil] 15 15),m 6 16]
def r3:=[m 17 0,o 18 (.len 17),o 19 (.a8 (k 0))]
def r4:=[o 20 (.bin .lss 19 18)]
def r5:=[m 21 19,m 7 21]
def r6:=[m 22 5,m 23 7,m 24 0,o 25 (.len 24),o 26 (.mk 188026 3 56 [(.bool false),.nil,.nil] 25 25),o 27 (.a4 none 1 22 23),n (.st 1 27 26)]
def r7:=[o 28 (.bin .add 19 (k 1)),m 19 28]
def r8:=[m 29 0,o 30 (.len 29),o 31 (.a8 (k 0))]
def r9:=[o 32 (.bin .lss 31 30)]
def DQ:=[m 33 31,m 8 33]
def DW:=[m 34 0,o 35 (.len 34),o 36 (.a8 (k 0))]
def q6:=[o 37 (.bin .lss 36 35)]
def EJ:=[m 38 36,m 9 38]
def v3:=[m 39 6,m 40 9,m 41 1,m 42 9,o 43 (.a4 none 1 41 42),o 44 (.ld false 1 43),m 45 8,o 46 (.a4 none 3 44 45),o 47 (.ld true 3 46),
 o 48 (.a4 none 3 39 40),n (.st 3 48 47)]
def v5:=[o 49 (.bin .add 36 (k 1)),m 36 49]
def x7:=[m 50 0,o 51 (.len 50),o 52 (.a8 (k 0))]
def GQ:=[o 53 (.bin .lss 52 51)]
def x8:=[m 54 52,m 10 54]
def r19:=[m 55 5,m 56 10,o 57 (.a4 none 1 55 56),o 58 (.ld false 1 57),m 59 8,m 60 0,m 61 10,o 62 (.a4 none 1 60 61),o 63 (.ld false 1 62),m 64 6,
 o 65 (.call 132 [63,64]),o 66 (.a4 none 3 58 59),n (.st 3 66 65)]
def bg:=[o 67 (.bin .add 52 (k 1)),m 52 67]
def da:=[o 68 (.bin .add 31 (k 1)),m 31 68]
def de:=[m 69 5,m 4 69]
def l1:=(s (p r4) (s (i 20 .skip (x 0)) (s (b 1 (s (d r5 [20,21]) (d r6 [7,22,23,24,25,26,27]))) (d r7 [28]))))
def l3:=(s (p q6) (s (i 37 .skip (x 4)) (s (b 5 (s (d EJ [37,38]) (d v3 [9,39,40,41,42,43,44,45,46,47,48]))) (d v5 [49]))))
def l4:=(s (p GQ) (s (i 53 .skip (x 6)) (s (b 7 (s (d x8 [53,54]) (e r19 [10,55,56,57,58,59,60,61,62,63,64,65,66]))) (d bg [67]))))
def l2:=(s (p r9) (s (i 32 .skip (x 2)) (s (b 3 (s (d DQ [32,33]) (s (s (d DW [34]) (b 4 (w l3))) (s (d x7 [35,36,37,50]) (b 6 (w l4)))))) (d da [8,51,52,53,68]))))
def c:=(s (d r0 [4]) (s (d r1 [11,12,13]) (s (d r2 [14,15,16]) (s (s (d r3 [17]) (b 0 (w l1))) (s (s (d r8 [18,19,20,29]) (b 2 (w l2))) (s (d de [0,1,5,6,30,31,32,69]) .ret))))))
end P6
def P6:AFn:=⟨2,P6.c,[.tmp 4],false⟩
namespace P4
def r0:=[o 1 (.box 1 0),o 2 (.alloc 2 [.nil,.nil]),o 3 (.a8 (k 0))]
def r1:=[o 16 (.ld true 6 1),o 17 (.call 130 [16]),o 18 (.un .not 17)]
def r2:=[o 19 (.build [.nil,.nil] []),n (.st 2 2 19),o 3 (.a8 (k 2))]
def r3:=[o 20 (.a7 1 0),o 21 (.ld false 1 20),o 22 (.len 21),m 4 22]
def r4:=[m 23 4,o 24 (.bin .gtr 23 (k 16))]
def r5:=[o 25 (.build [.nil,.nil] []),n (.st 2 2 25),o 3 (.a8 (k 12))]
def r6:=[o 26 (.call 96 [(k 1)]),o 27 (.c4 27 3 [26]),m 5 27]
def r7:=[o 28 (.call 96 [(k 0)]),o 29 (.c4 29 3 [28]),m 6 29]
def r8:=[m 30 4,o 31 (.c8 145 [30]),o 32 (.gx 31 0 1 false),m 7 32]
def r9:=[m 33 4,o 34 (.a8 (k 0))]
def DQ:=[o 35 (.bin .lss 34 33)]
def DW:=[m 36 34,m 8 36]
def q6:=[m 37 7,m 38 8,o 39 (.a4 none 1 37 38),o 40 (.ld false 1 39),m 41 8,o 42 (.call 96 [(k 1)]),o 43 (.a4 none 3 40 41),n (.st 3 43 42)]
def EJ:=[o 44 (.bin .add 34 (k 1)),m 34 44]
def v3:=[o 9 (.a8 (k 1))]
def v5:=[m 45 9,m 46 4,o 47 (.bin .leq 45 46)]
def GQ:=[m 50 4,o 51 (.mk 51 3 56 [(.bool false),.nil,.nil] 50 50),m 10 51]
def x8:=[m 52 4,o 53 (.a8 (k 0))]
def r19:=[o 54 (.bin .lss 53 52)]
def bg:=[m 55 53,m 11 55]
def da:=[m 56 10,m 57 11,m 58 7,m 59 11,o 60 (.a4 none 1 58 59),o 61 (.ld false 1 60),o 62 (.a7 1 1),o 63 (.ld false 1 62),o 64 (.call 132 [61,63]),
 o 65 (.a4 none 3 56 57),n (.st 3 65 64)]
def de:=[o 66 (.bin .add 53 (k 1)),m 53 66]
def fu:=[m 67 6,o 68 (.a7 1 2),o 69 (.ld false 1 68),m 70 10,o 71 (.call 132 [69,70]),o 72 (.c4 72 3 [71]),o 73 (.app 73 3 56 67 72),m 6 73]
def LP:=[o 74 (.a7 1 0),o 75 (.ld false 1 74),m 76 7,o 77 (.c8 188 [75,76]),m 7 77]
def QJ:=[o 78 (.call 96 [(k 0)]),o 12 (.alloc 12 [(.bool false),.nil,.nil]),n (.st 3 12 78)]
def VH:=[m 79 4,o 80 (.a8 (k 0))]
def VI:=[o 81 (.bin .lss 80 79)]
def X8:=[m 82 80,m 13 82]
def X9:=[o 83 (.ld true 3 12),m 84 7,m 85 13,o 86 (.a4 none 1 84 85),o 87 (.ld false 1 86),m 88 13,o 89 (.a4 none 3 87 88),o 90 (.ld true 3 89),
 o 91 (.call 98 [83,90]),n (.st 3 12 91)]
def r30:=[o 92 (.bin .add 80 (k 1)),m 80 92]
def px:=[q 93 [14] (.ld true 3 12),m 94 9,q 95 [14] (.call 151 [(k (-1)),94]),q 96 [14] (.call 99 [93,95]),
 o 14 (.alloc 14 [(.bool false),.nil,.nil]),n (.st 3 14 96)]
def pA:=[m 97 4,o 98 (.a8 (k 0))]
def pB:=[o 99 (.bin .lss 98 97)]
def pC:=[m 100 98,m 15 100]
def pD:=[m 101 7,m 102 15,o 103 (.a4 none 1 101 102),o 104 (.ld false 1 103),m 105 15,m 106 7,m 107 15,o 108 (.a4 none 1 106 107),o 109 (.ld false 1 108),
 m 110 15,o 111 (.a4 none 3 109 110),o 112 (.ld true 3 111),o 113 (.ld true 3 14),o 114 (.call 98 [112,113]),o 115 (.a4 none 3 104 105),
 n (.st 3 115 114)]
def pE:=[o 116 (.bin .add 98 (k 1)),m 98 116]
def pF:=[m 117 5,o 118 (.ld true 3 14),o 119 (.c4 119 3 [118]),o 120 (.app 120 3 56 117 119),m 5 120]
def x7:=[m 48 9,o 49 (.bin .add 48 (k 1)),m 9 49]
def pG:=[m 121 6,m 122 5,o 123 (.a7 1 3),o 124 (.ld true 3 123),o 125 (.call 190 [122,124]),o 126 (.call 191 [121,125]),m 127 5,o 128 (.call 170 [127]),
 o 129 (.build [.nil,.nil] [(0,1,126),(1,1,128)]),n (.st 2 2 129),o 3 (.a8 (k 0))]
def l1:=(s (p DQ) (s (i 35 .skip (x 0)) (s (b 1 (s (d DW [35,36]) (e q6 [8,37,38,39,40,41,42,43]))) (d EJ [44]))))
def l3:=(s (p r19) (s (i 54 .skip (x 4)) (s (b 5 (s (d bg [54,55]) (e da [11,56,57,58,59,60,61,62,63,64,65]))) (d de [66]))))
def l4:=(s (p VI) (s (i 81 .skip (x 6)) (s (b 7 (s (d X8 [81,82]) (e X9 [13,83,84,85,86,87,88,89,90,91]))) (d r30 [92]))))
def l5:=(s (p pB) (s (i 99 .skip (x 8)) (s (b 9 (s (d pC [99,100]) (e pD [15,101,102,103,104,105,106,107,108,109,110,111,112,113,114,115]))) (d pE [116]))))
def l2:=(s (s (d v5 [45,46]) (i 47 .skip (x 2))) (s (b 3 (s (d GQ [47,50,51]) (s (s (p x8) (b 4 (w l3))) (s (d fu [10,52,53,54,67,68,69,70,71,72,73]) (s (d LP [74,75,76,77]) (s (d QJ [78]) (s (s (p VH) (b 6 (w l4))) (s (e px [12,79,80,81,93,94,95,96]) (s (s (p pA) (b 8 (w l5))) (d pF [14,97,98,99,117,118,119,120])))))))))) (d x7 [48,49])))
def c:=(s (d r0 [0,3]) (s (s (d r1 [16,17]) (i 18 (s (d r2 [1,18,19]) .ret) .skip)) (s (d r3 [18,20,21,22]) (s (s (d r4 [23]) (i 24 (s (d r5 [1,4,24,25]) .ret) .skip)) (s (d r6 [24,26,27]) (s (d r7 [28,29]) (s (d r8 [30,31,32]) (s (s (p r9) (b 0 (w l1))) (s (s (d v3 [33,34,35]) (b 2 (w l2))) (s (d pG [1,4,5,6,7,9,47,121,122,123,124,125,126,127,128,129]) .ret))))))))))
end P4
def P4:AFn:=⟨1,P4.c,[.cell 2 true 2,.tmp 3],false⟩
namespace QE
def r0:=[o 4 (.a8 (.c .nil))]
def r1:=[m 7 0,o 8 (.len 7),m 9 1,o 10 (.len 9),o 11 (.bin .lss 8 10)]
def r2:=[m 12 1,m 13 0,m 0 12,m 1 13]
def r3:=[m 14 0,o 15 (.len 14),o 16 (.mk 16 3 56 [(.bool false),.nil,.nil] 15 15),m 5 16]
def r4:=[m 17 5,o 18 (.len 17),o 19 (.a8 (k 0))]
def r5:=[o 20 (.bin .lss 19 18)]
def r6:=[m 21 19,m 6 21]
def r7:=[m 22 6,m 23 1,o 24 (.len 23),o 25 (.bin .lss 22 24)]
def r8:=[m 26 5,m 27 6,m 28 0,m 29 6,o 30 (.a4 none 3 28 29),o 31 (.ld true 3 30),m 32 1,m 33 6,o 34 (.a4 none 3 32 33),o 35 (.ld true 3 34),
 o 36 (.call 98 [31,35]),o 37 (.a4 none 3 26 27),n (.st 3 37 36)]
def r9:=[m 38 5,m 39 6,m 40 0,m 41 6,o 42 (.a4 none 3 40 41),o 43 (.ld true 3 42),o 44 (.call 95 [43]),o 45 (.a4 none 3 38 39),n (.st 3 45 44)]
def DQ:=[o 46 (.bin .add 19 (k 1)),m 19 46]
def DW:=[m 47 5,o 48 (.c8 169 [47]),m 4 48]
def l1:=(s (p r5) (s (i 20 .skip (x 0)) (s (b 1 (s (d r6 [20,21]) (s (d r7 [22,23,24]) (i 25 (e r8 [6,25,26,27,28,29,30,31,32,33,34,35,36,37]) (d r9 [6,25,38,39,40,41,42,43,44,45]))))) (d DQ [46]))))
def c:=(s (d r0 [4]) (s (s (d r1 [7,8,9,10]) (i 11 (d r2 [11,12,13]) .skip)) (s (d r3 [11,14,15,16]) (s (s (d r4 [17]) (b 0 (w l1))) (s (d DW [0,1,5,18,19,20,47,48]) .ret)))))
end QE
def QE:AFn:=⟨2,QE.c,[.tmp 4],false⟩
namespace QH
def r0:=[o 3 (.box 3 1),o 4 (.a8 (.c .nil))]
def r1:=[m 7 0,o 8 (.len 7),o 9 (.mk 9 3 56 [(.bool false),.nil,.nil] 8 8),m 5 9]
def r2:=[m 10 5,o 11 (.len 10),o 12 (.a8 (k 0))]
def r3:=[o 13 (.bin .lss 12 11)]
def r4:=[m 14 12,m 6 14]
def r5:=[m 15 5,m 16 6,m 17 0,m 18 6,o 19 (.a4 none 3 17 18),o 20 (.ld true 3 19),o 21 (.ld true 3 3),o 22 (.call 99 [20,21]),o 23 (.a4 none 3 15 16),
 n (.st 3 23 22)]
def r6:=[o 24 (.bin .add 12 (k 1)),m 12 24]
def r7:=[m 25 5,o 26 (.c8 169 [25]),m 4 26]
def l1:=(s (p r3) (s (i 13 .skip (x 0)) (s (b 1 (s (d r4 [13,14]) (e r5 [6,15,16,17,18,19,20,21,22,23]))) (d r6 [24]))))
def c:=(s (d r0 [1,4]) (s (d r1 [7,8,9]) (s (s (d r2 [10]) (b 0 (w l1))) (s (d r7 [0,3,5,11,12,13,25,26]) .ret))))
end QH
def QH:AFn:=⟨2,QH.c,[.tmp 4],false⟩
structure TrGLib (L:Lib):Prop extends fe L,o5 L,z8 L,v7 L where
 P6:L 188=some F.P6
 P4:L 189=some F.P4
 QE:L 191=some F.QE
 QH:L 190=some F.QH
end Go.Eng.F

namespace Go.Eng.F
open C
namespace O0
def r0:=[o 2 (.box 2 0),o 3 (.box 3 1),o 4 (.a8 (k 0))]
def r1:=[o 7 (.ld true 2 2),o 8 (.call 86 [7]),o 9 (.ld true 2 3),o 10 (.call 86 [9]),m 5 8,m 6 10]
def r2:=[m 12 5,m 13 6,o 14 (.bin .lss 12 13),m 11 14]
def r3:=[o 4 (.a8 (k (-1)))]
def r4:=[m 16 5,m 17 6,o 18 (.bin .gtr 16 17),m 15 18]
def r5:=[o 4 (.a8 (k 1))]
def r6:=[m 20 5,o 21 (.bin .eql 20 (k (-1))),m 19 21]
def r7:=[o 22 (.a7 3 1),o 23 (.ld false 1 22),o 24 (.a7 2 1),o 25 (.ld false 1 24),o 26 (.call 67 [23,25]),m 4 26]
def r8:=[o 27 (.a7 2 1),o 28 (.ld false 1 27),o 29 (.a7 3 1),o 30 (.ld false 1 29),o 31 (.call 67 [28,30]),m 4 31]
def c:=(s (d r0 [0,1,4]) (s (e r1 [7,8,9,10]) (s (b 0 (s (d r2 [12,13,14]) (i 11 (s (d r3 [2,3,5,6,11]) .ret) (s (d r4 [6,11,16,17,18]) (i 15 (s (d r5 [2,3,5,15]) .ret) (s (d r6 [5,15,20,21]) (i 19 (s (d r7 [2,3,19,22,23,24,25,26]) .ret) .skip))))))) (s (d r8 [2,3,19,27,28,29,30,31]) .ret))))
end O0
def O0:AFn:=⟨2,O0.c,[.tmp 4],false⟩
namespace M4
def r0:=[o 2 (.box 2 0),o 3 (.box 3 1),o 4 (.a8 (k 0))]
def r1:=[q 7 [5,6] (.ld true 3 2),q 8 [5,6] (.l9 89 [7]),q 9 [5,6] (.ld true 3 3),q 10 [5,6] (.l9 89 [9]),
 o 5 (.alloc 5 [(.bool false),.nil,.nil,(.bool false)]),o 6 (.alloc 6 [(.bool false),.nil,.nil,(.bool false)]),n (.st 4 5 8),n (.st 4 6 10)]
def r2:=[o 11 (.a7 5 3),o 12 (.ld false 1 11),m 13 12,g 14 13 true (.a7 6 3),g 15 13 true (.ld false 1 14),o 16 (.pick 13 15 (.c (.bool false)))]
def r3:=[o 17 (.a7 5 0),o 18 (.a7 17 0),o 19 (.ld true 2 18),o 20 (.a7 6 0),o 21 (.a7 20 0),o 22 (.ld true 2 21),o 23 (.call 197 [19,22]),m 4 23]
def r4:=[o 24 (.a7 5 0),o 25 (.a7 24 0),o 26 (.ld true 2 25),o 27 (.a7 6 0),o 28 (.a7 27 2),o 29 (.ld false 1 28),o 30 (.l9 91 [29]),
 o 31 (.call 88 [26,30]),o 32 (.a7 6 0),o 33 (.a7 32 0),o 34 (.ld true 2 33),o 35 (.a7 5 0),o 36 (.a7 35 2),o 37 (.ld false 1 36),
 o 38 (.l9 91 [37]),o 39 (.call 88 [34,38]),o 40 (.call 197 [31,39]),m 4 40]
def c:=(s (d r0 [0,1,4]) (s (e r1 [2,3,7,8,9,10]) (s (s (d r2 [11,12,13,14,15]) (i 16 (s (d r3 [5,6,16,17,18,19,20,21,22,23]) .ret) .skip)) (s (e r4 [5,6,16,24,25,26,27,28,29,30,31,32,33,34,35,36,37,38,39,40]) .ret))))
end M4
def M4:AFn:=⟨2,M4.c,[.tmp 4],false⟩
namespace QN
def r0:=[o 1 (.box 1 0),o 2 (.alloc 2 [(.bool false),.nil,.nil])]
def r1:=[o 3 (.ld true 3 1),o 4 (.l9 149 [3]),o 5 (.call 95 [4]),n (.st 3 2 5)]
def c:=(s (d r0 [0]) (s (d r1 [1,3,4,5]) .ret))
end QN
def QN:AFn:=⟨1,QN.c,[.cell 2 true 3],false⟩
namespace QF
def r0:=[o 2 (.a8 (k 0))]
def r1:=[m 3 0,o 4 (.c8 169 [3]),o 5 (.len 4),o 6 (.bin .sub 5 (k 1)),m 2 6]
def c:=(s (d r0 [2]) (s (d r1 [0,3,4,5,6]) .ret))
end QF
def QF:AFn:=⟨1,QF.c,[.tmp 2],false⟩
namespace SM
def r0:=[o 1 (.box 1 0),o 2 (.a8 (.c (.bool false)))]
def r1:=[o 3 (.a7 1 0),o 4 (.ld false 1 3),o 5 (.call 200 [4]),o 6 (.bin .gtr 5 (k 48)),m 7 6,g 8 7 false (.a7 1 1),g 9 7 false (.ld false 1 8),
 g 10 7 false (.call 200 [9]),g 11 7 false (.bin .gtr 10 (k 48)),o 12 (.pick 7 (.c (.bool true)) 11)]
def r2:=[o 2 (.a8 (.c (.bool false)))]
def r3:=[o 13 (.a7 1 1),o 14 (.ld false 1 13),o 15 (.len 14),o 16 (.bin .gtr 15 (k 0)),m 17 16,g 18 17 true (.a7 1 1),g 19 17 true (.ld false 1 18),
 g 20 17 true (.a4 none 3 19 (k 0)),g 21 17 true (.ld true 3 20),g 22 17 true (.call 96 [(k 1)]),g 23 17 true (.call 198 [21,22]),
 g 24 17 true (.bin .eql 23 (k 0)),o 25 (.pick 17 24 (.c (.bool false))),m 2 25]
def c:=(s (d r0 [0,2]) (s (s (d r1 [3,4,5,6,7,8,9,10,11]) (i 12 (s (d r2 [1,12]) .ret) .skip)) (s (e r3 [1,12,13,14,15,16,17,18,19,20,21,22,23,24,25]) .ret)))
end SM
def SM:AFn:=⟨1,SM.c,[.tmp 2],false⟩
namespace S6
def r0:=[o 2 (.a8 (k 0))]
def r1:=[m 4 0,o 5 (.len 4),o 6 (.bin .sub 5 (k 1)),m 3 6]
def r2:=[m 7 3,o 8 (.bin .gtr 7 (k 0))]
def r4:=[m 11 0,m 12 3,o 13 (.a4 none 3 11 12),o 14 (.ld true 3 13),o 15 (.call 97 [14]),o 16 (.bin .neq 15 (k 0))]
def r5:=[m 17 3,m 2 17]
def r3:=[m 9 3,o 10 (.bin .sub 9 (k 1)),m 3 10]
def r6:=[o 2 (.a8 (k 0))]
def l1:=(s (s (d r2 [7]) (i 8 .skip (x 0))) (s (b 1 (s (d r4 [8,11,12,13,14,15]) (i 16 (s (d r5 [0,3,16,17]) .ret) .skip))) (d r3 [9,10,16])))
def c:=(s (d r0 [2]) (s (s (d r1 [4,5,6]) (b 0 (w l1))) (s (d r6 [0,3,8]) .ret)))
end S6
def S6:AFn:=⟨1,S6.c,[.tmp 2],false⟩
namespace S2
def r0:=[o 4 (.alloc 4 [(.bool false),.nil,.nil])]
def r1:=[m 5 1,m 6 0,o 7 (.len 6),o 8 (.bin .lss 5 7)]
def r2:=[m 9 0,m 10 1,o 11 (.a4 none 3 9 10),o 12 (.ld true 3 11),o 13 (.call 95 [12]),n (.st 3 4 13)]
def r3:=[o 14 (.call 96 [(k 0)]),n (.st 3 4 14)]
def c:=(s (p r0) (s (s (d r1 [5,6,7]) (i 8 (s (d r2 [0,1,8,9,10,11,12,13]) .ret) .skip)) (s (d r3 [0,1,8,14]) .ret)))
end S2
def S2:AFn:=⟨2,S2.c,[.cell 4 true 3],false⟩
namespace TB
def r0:=[o 2 (.a8 (.c .nil))]
def r1:=[m 5 0,o 6 (.mk 6 3 56 [(.bool false),.nil,.nil] 5 5),m 3 6]
def r2:=[m 7 0,o 8 (.a8 (k 0))]
def r3:=[o 9 (.bin .lss 8 7)]
def r4:=[m 10 8,m 4 10]
def r5:=[m 11 3,m 12 4,o 13 (.call 96 [(k 0)]),o 14 (.a4 none 3 11 12),n (.st 3 14 13)]
def r6:=[o 15 (.bin .add 8 (k 1)),m 8 15]
def r7:=[m 16 3,m 2 16]
def l1:=(s (p r3) (s (i 9 .skip (x 0)) (s (b 1 (s (d r4 [9,10]) (d r5 [4,11,12,13,14]))) (d r6 [15]))))
def c:=(s (d r0 [2]) (s (d r1 [5,6]) (s (s (d r2 [0]) (b 0 (w l1))) (s (d r7 [3,7,8,9,16]) .ret))))
end TB
def TB:AFn:=⟨1,TB.c,[.tmp 2],false⟩
namespace ND
def r0:=[o 1 (.box 1 0),o 2 (.alloc 2 [.nil,.nil,.nil,(.bool false),.nil,.nil]),o 3 (.a8 (k 0))]
def r1:=[o 10 (.ld true 2 1),o 11 (.call 201 [10]),o 12 (.un .not 11)]
def r2:=[o 13 (.build [.nil,.nil,.nil,(.bool false),.nil,.nil] []),n (.st 6 2 13),o 3 (.a8 (k 2))]
def r3:=[o 14 (.a7 1 0),o 15 (.ld false 1 14),o 16 (.call 204 [15]),o 17 (.a7 1 1),o 18 (.ld false 1 17),o 19 (.call 204 [18]),o 20 (.mm true [16,19]),
 m 4 20]
def r4:=[m 21 4,o 22 (.bin .gtr 21 (k 16))]
def r5:=[o 23 (.build [.nil,.nil,.nil,(.bool false),.nil,.nil] []),n (.st 6 2 23),o 3 (.a8 (k 12))]
def r6:=[o 24 (.a7 1 0),o 25 (.ld false 1 24),o 26 (.call 205 [25,(k 0)]),m 27 4,o 28 (.o0 28 206 [27]),
 o 29 (.build [.nil,.nil,.nil,(.bool false),.nil,.nil] [(3,3,26),(1,1,28)]),o 5 (.alloc 5 [.nil,.nil,.nil,(.bool false),.nil,.nil]),
 n (.st 6 5 29)]
def r7:=[m 30 4,o 31 (.bin .gtr 30 (k 0))]
def r8:=[o 32 (.a7 5 1),o 33 (.ld false 1 32),o 34 (.call 96 [(k 1)]),o 35 (.a4 none 3 33 (k 0)),n (.st 3 35 34)]
def r9:=[m 36 4,o 37 (.a8 (k 0))]
def DQ:=[o 38 (.bin .lss 37 36)]
def DW:=[m 39 37,m 6 39]
def q6:=[m 40 4,o 41 (.o0 41 206 [40]),m 7 41]
def EJ:=[m 42 6,o 43 (.bin .gtr 42 (k 0))]
def v3:=[m 44 7,m 45 6,o 46 (.bin .sub 45 (k 1)),o 47 (.call 96 [(k 1)]),o 48 (.a4 none 3 44 46),n (.st 3 48 47)]
def v5:=[m 49 4,o 50 (.a8 (k 0))]
def x7:=[o 51 (.bin .lss 50 49)]
def GQ:=[m 52 50,m 8 52]
def x8:=[m 53 7,m 54 8,o 55 (.a7 1 1),o 56 (.ld false 1 55),m 57 8,o 58 (.bin .add 57 (k 1)),o 59 (.call 205 [56,58]),o 60 (.call 199 [59]),
 o 61 (.a4 none 3 53 54),n (.st 3 61 60)]
def r19:=[o 62 (.bin .add 50 (k 1)),m 50 62]
def bg:=[o 63 (.a7 5 0),o 64 (.ld false 1 63),m 65 7,o 66 (.c4 66 1 [65]),o 67 (.app 67 1 24 64 66),o 68 (.a7 5 0),n (.st 1 68 67)]
def da:=[o 69 (.a7 1 0),q 70 [9] (.ld false 1 69),q 71 [9] (.call 205 [70,(k 0)]),o 72 (.a7 1 1),q 73 [9] (.ld false 1 72),
 m 74 6,o 75 (.bin .add 74 (k 1)),q 76 [9] (.call 205 [73,75]),q 77 [9] (.call 99 [71,76]),
 o 9 (.alloc 9 [(.bool false),.nil,.nil]),n (.st 3 9 77)]
def de:=[o 78 (.a7 5 2),q 79 [87] (.ld false 1 78),o 80 (.a7 1 0),o 81 (.ld false 1 80),m 82 6,o 83 (.bin .add 82 (k 1)),o 84 (.call 205 [81,83]),
 o 85 (.ld true 3 9),o 86 (.call 150 [84,85]),o 87 (.c4 87 3 [86]),o 88 (.app 88 3 56 79 87),o 89 (.a7 5 2),n (.st 1 89 88)]
def fu:=[o 90 (.bin .add 37 (k 1)),m 37 90]
def LP:=[o 91 (.ld true 6 5),n (.st 6 2 91),o 3 (.a8 (k 0))]
def l2:=(s (p x7) (s (i 51 .skip (x 2)) (s (b 3 (s (d GQ [51,52]) (d x8 [8,53,54,55,56,57,58,59,60,61]))) (d r19 [62]))))
def l1:=(s (p DQ) (s (i 38 .skip (x 0)) (s (b 1 (s (d DW [38,39]) (s (d q6 [40,41]) (s (s (d EJ [42]) (i 43 (d v3 [43,44,45,46,47,48]) (s (d v5 [43]) (b 2 (w l2))))) (s (d bg [7,49,50,51,63,64,65,66,67,68]) (s (e da [69,70,71,72,73,74,75,76,77]) (e de [6,9,78,79,80,81,82,83,84,85,86,87,88,89]))))))) (d fu [90]))))
def c:=(s (d r0 [0,3]) (s (s (d r1 [10,11]) (i 12 (s (d r2 [1,12,13]) .ret) .skip)) (s (e r3 [12,14,15,16,17,18,19,20]) (s (s (d r4 [21]) (i 22 (s (d r5 [1,4,22,23]) .ret) .skip)) (s (d r6 [22,24,25,26,27,28,29]) (s (s (d r7 [30]) (i 31 (e r8 [31,32,33,34,35]) .skip)) (s (s (d r9 [31]) (b 0 (w l1))) (s (d LP [1,4,5,36,37,38,91]) .ret))))))))
end ND
def ND:AFn:=⟨1,ND.c,[.cell 2 true 6,.tmp 3],false⟩
namespace SL
def r0:=[o 2 (.a8 (.c .nil))]
def r1:=[m 6 0,o 7 (.len 6),o 8 (.mk 8 1 24 [.nil] 7 7),m 3 8]
def r2:=[o 4 (.a8 (k 0))]
def r3:=[m 9 4,m 10 0,o 11 (.len 10),o 12 (.bin .lss 9 11)]
def r5:=[o 5 (.a8 (k 0))]
def r6:=[m 15 5,m 16 0,o 17 (.len 16),o 18 (.bin .lss 15 17)]
def r8:=[m 21 3,m 22 4,m 23 3,m 24 4,o 25 (.a4 none 1 23 24),q 26 [34] (.ld false 1 25),m 27 0,m 28 5,o 29 (.a4 none 1 27 28),
 o 30 (.ld false 1 29),m 31 4,o 32 (.a4 none 3 30 31),o 33 (.ld true 3 32),o 34 (.c4 34 3 [33]),o 35 (.app 35 3 56 26 34),o 36 (.a4 none 1 21 22),
 n (.st 1 36 35)]
def r7:=[m 19 5,o 20 (.bin .add 19 (k 1)),m 5 20]
def r4:=[m 13 4,o 14 (.bin .add 13 (k 1)),m 4 14]
def r9:=[m 37 3,m 2 37]
def l2:=(s (s (d r6 [15,16,17]) (i 18 .skip (x 2))) (s (b 3 (e r8 [18,21,22,23,24,25,26,27,28,29,30,31,32,33,34,35,36])) (d r7 [19,20])))
def l1:=(s (s (d r3 [9,10,11]) (i 12 .skip (x 0))) (s (b 1 (s (d r5 [12]) (b 2 (w l2)))) (d r4 [5,13,14,18])))
def c:=(s (d r0 [2]) (s (d r1 [6,7,8]) (s (s (p r2) (b 0 (w l1))) (s (d r9 [0,3,4,12,37]) .ret))))
end SL
def SL:AFn:=⟨1,SL.c,[.tmp 2],false⟩
structure StGLib (L:Lib):Prop extends TrGLib L where
 O0:L 197=some F.O0
 M4:L 198=some F.M4
 QN:L 199=some F.QN
 QF:L 200=some F.QF
 SM:L 201=some F.SM
 S6:L 204=some F.S6
 S2:L 205=some F.S2
 TB:L 206=some F.TB
 ND:L 207=some F.ND
 SL:L 212=some F.SL
end Go.Eng.F

namespace Go.Eng.F
open C
structure jg (L:Lib):Prop extends StGLib L where
structure ji (L:Lib):Prop extends jg L where
end Go.Eng.F

namespace Go.Eng.F
open C
namespace R9
def r0:=[o 2 (.a8 (.c (.bool false)))]
def r1:=[m 5 0,o 6 (.len 5),o 7 (.bin .lss 6 (k 1)),m 8 7,g 9 8 false (.a8 0),g 10 8 false (.len 9),g 11 8 false (.bin .gtr 10 (k 52)),
 o 12 (.pick 8 (.c (.bool true)) 11),m 13 12,g 14 13 false (.a8 0),g 15 13 false (.a4 none 1 14 (k 0)),g 16 13 false (.ld false 1 15),
 g 17 13 false (.len 16),g 18 13 false (.bin .lss 17 (k 1)),o 19 (.pick 13 (.c (.bool true)) 18),m 20 19,g 21 20 false (.a8 0),
 g 22 20 false (.a4 none 1 21 (k 0)),g 23 20 false (.ld false 1 22),g 24 20 false (.len 23),g 25 20 false (.bin .gtr 24 (k 52)),
 o 26 (.pick 20 (.c (.bool true)) 25)]
def r2:=[o 2 (.a8 (.c (.bool false)))]
def r3:=[m 27 0,o 28 (.len 27),o 29 (.a8 (k 0))]
def r4:=[o 30 (.bin .lss 29 28)]
def r5:=[o 31 (.a4 none 1 27 29),o 32 (.ld false 1 31),m 4 32]
def r6:=[m 33 4,o 34 (.len 33),m 35 0,o 36 (.a4 none 1 35 (k 0)),o 37 (.ld false 1 36),o 38 (.len 37),o 39 (.bin .neq 34 38)]
def r7:=[o 2 (.a8 (.c (.bool false)))]
def r8:=[o 40 (.bin .add 29 (k 1)),m 29 40]
def r9:=[o 2 (.a8 (.c (.bool true)))]
def l1:=(s (p r4) (s (i 30 .skip (x 0)) (s (b 1 (s (d r5 [30,31,32]) (s (d r6 [4,33,34,35,36,37,38]) (i 39 (s (d r7 [0,27,28,29,39]) .ret) .skip)))) (d r8 [39,40]))))
def c:=(s (d r0 [2]) (s (s (d r1 [5,6,7,8,9,10,11,12,13,14,15,16,17,18,19,20,21,22,23,24,25]) (i 26 (s (d r2 [0,26]) .ret) .skip)) (s (s (d r3 [26]) (b 0 (w l1))) (s (d r9 [0,27,28,29,30]) .ret))))
end R9
def R9:AFn:=⟨1,R9.c,[.tmp 2],false⟩
namespace R7
def r0:=[o 2 (.a8 (.c .nil)),o 3 (.a8 (k 0))]
def r1:=[m 8 0,o 9 (.bin .lss 8 (k 1)),m 10 9,g 11 10 false (.a8 0),g 12 10 false (.bin .gtr 11 (k 52)),o 13 (.pick 10 (.c (.bool true)) 12)]
def r2:=[o 2 (.a8 (.c .nil)),o 3 (.a8 (k 1))]
def r3:=[o 4 (.q7 4 1)]
def r4:=[o 5 (.a8 (k 0))]
def r5:=[m 14 5,m 15 0,o 16 (.bin .lss 14 15)]
def r7:=[m 19 0,o 20 (.mk 20 3 56 [(.bool false),.nil,.nil] 19 19),m 6 20]
def r8:=[m 21 6,o 22 (.len 21),o 23 (.a8 (k 0))]
def r9:=[o 24 (.bin .lss 23 22)]
def DQ:=[m 25 23,m 7 25]
def DW:=[m 26 6,m 27 7,o 28 (.call 124 [(k 0)]),o 29 (.a4 none 3 26 27),n (.st 3 29 28)]
def q6:=[o 30 (.bin .add 23 (k 1)),m 23 30]
def EJ:=[m 31 6,m 32 5,o 33 (.call 124 [(k 1)]),o 34 (.a4 none 3 31 32),n (.st 3 34 33)]
def v3:=[m 35 4,m 36 6,o 37 (.c4 37 1 [36]),o 38 (.app 38 1 24 35 37),m 4 38]
def r6:=[m 17 5,o 18 (.bin .add 17 (k 1)),m 5 18]
def v5:=[m 39 4,m 2 39,o 3 (.a8 (k 0))]
def l2:=(s (p r9) (s (i 24 .skip (x 2)) (s (b 3 (s (d DQ [24,25]) (d DW [7,26,27,28,29]))) (d q6 [30]))))
def l1:=(s (s (d r5 [14,15]) (i 16 .skip (x 0))) (s (b 1 (s (d r7 [16,19,20]) (s (s (d r8 [21]) (b 2 (w l2))) (s (d EJ [22,23,24,31,32,33,34]) (d v3 [6,35,36,37,38]))))) (d r6 [17,18])))
def c:=(s (d r0 [2,3]) (s (s (d r1 [8,9,10,11,12]) (i 13 (s (d r2 [0,13]) .ret) .skip)) (s (d r3 [13]) (s (s (p r4) (b 0 (w l1))) (s (d v5 [0,4,5,16,39]) .ret)))))
end R7
def R7:AFn:=⟨1,R7.c,[.tmp 2,.tmp 3],false⟩
namespace R8
def r0:=[o 4 (.a8 (.c .nil)),o 5 (.a8 (k 0))]
def r1:=[m 13 0,o 14 (.call 239 [13]),o 15 (.un .not 14),m 16 15,g 17 16 false (.a8 1),g 18 16 false (.call 239 [17]),g 19 16 false (.un .not 18),
 o 20 (.pick 16 (.c (.bool true)) 19),m 12 20]
def r2:=[o 4 (.a8 (.c .nil)),o 5 (.a8 (k 2))]
def r3:=[m 22 0,o 23 (.a4 none 1 22 (k 0)),o 24 (.ld false 1 23),o 25 (.len 24),m 26 1,o 27 (.len 26),o 28 (.bin .neq 25 27),m 21 28]
def r4:=[o 4 (.a8 (.c .nil)),o 5 (.a8 (k 1))]
def r5:=[o 6 (.q7 6 1)]
def r6:=[m 29 0,o 30 (.len 29),o 31 (.a8 (k 0))]
def r7:=[o 32 (.bin .lss 31 30)]
def r8:=[m 33 31,m 7 33]
def r9:=[o 8 (.q7 8 3)]
def DQ:=[m 34 1,o 35 (.a4 none 1 34 (k 0)),o 36 (.ld false 1 35),o 37 (.len 36),o 38 (.a8 (k 0))]
def DW:=[o 39 (.bin .lss 38 37)]
def q6:=[m 40 38,m 9 40]
def EJ:=[o 41 (.call 124 [(k 0)]),o 10 (.alloc 10 [(.bool false),.nil,.nil]),n (.st 3 10 41)]
def v3:=[m 42 1,o 43 (.len 42),o 44 (.a8 (k 0))]
def v5:=[o 45 (.bin .lss 44 43)]
def x7:=[m 46 44,m 11 46]
def GQ:=[o 47 (.ld true 3 10),m 48 0,m 49 7,o 50 (.a4 none 1 48 49),o 51 (.ld false 1 50),m 52 11,o 53 (.a4 none 3 51 52),o 54 (.ld true 3 53),m 55 1,
 m 56 11,o 57 (.a4 none 1 55 56),o 58 (.ld false 1 57),m 59 9,o 60 (.a4 none 3 58 59),o 61 (.ld true 3 60),o 62 (.call 128 [54,61]),
 o 63 (.call 126 [47,62]),n (.st 3 10 63)]
def x8:=[o 64 (.bin .add 44 (k 1)),m 44 64]
def r19:=[m 65 8,o 66 (.ld true 3 10),o 67 (.c4 67 3 [66]),o 68 (.app 68 3 56 65 67),m 8 68]
def bg:=[o 69 (.bin .add 38 (k 1)),m 38 69]
def da:=[m 70 6,m 71 8,o 72 (.c4 72 1 [71]),o 73 (.app 73 1 24 70 72),m 6 73]
def de:=[o 74 (.bin .add 31 (k 1)),m 31 74]
def fu:=[m 75 6,m 4 75,o 5 (.a8 (k 0))]
def l3:=(s (p v5) (s (i 45 .skip (x 5)) (s (b 6 (s (d x7 [45,46]) (e GQ [11,47,48,49,50,51,52,53,54,55,56,57,58,59,60,61,62,63]))) (d x8 [64]))))
def l2:=(s (p DW) (s (i 39 .skip (x 3)) (s (b 4 (s (d q6 [39,40]) (s (d EJ [41]) (s (s (d v3 [42]) (b 5 (w l3))) (d r19 [9,10,43,44,45,65,66,67,68]))))) (d bg [69]))))
def l1:=(s (p r7) (s (i 32 .skip (x 1)) (s (b 2 (s (d r8 [32,33]) (s (p r9) (s (s (d DQ [34,35,36]) (b 3 (w l2))) (d da [7,8,37,38,39,70,71,72,73]))))) (d de [74]))))
def c:=(s (d r0 [4,5]) (s (b 0 (s (d r1 [13,14,15,16,17,18,19,20]) (i 12 (s (d r2 [0,1,12]) .ret) (s (d r3 [12,22,23,24,25,26,27,28]) (i 21 (s (d r4 [0,1,21]) .ret) .skip))))) (s (d r5 [21]) (s (s (d r6 [29]) (b 1 (w l1))) (s (d fu [0,1,6,30,31,32,75]) .ret)))))
end R8
def R8:AFn:=⟨2,R8.c,[.tmp 4,.tmp 5],false⟩
structure R09GLib (L:Lib):Prop extends g9 L where
 R9:L 239=some F.R9
 R7:L 240=some F.R7
 R8:L 241=some F.R8
end Go.Eng.F

namespace Go.Eng.F
open C
namespace RP
def r0:=[o 2 (.box 2 0),o 3 (.box 3 1),o 4 (.alloc 4 [(.bool false),.nil,.nil])]
def r1:=[o 8 (.ld true 3 2),o 9 (.ld true 3 3),o 10 (.call 154 [8,9]),m 7 10,o 11 (.ext 7 0),o 12 (.ext 7 1),o 5 (.alloc 5 [(.bool false),.nil,.nil]),
 n (.st 3 5 11),m 6 12]
def r2:=[m 13 6,o 14 (.bin .neq 13 (k 0))]
def r3:=[o 15 (.call 124 [(k 0)]),n (.st 3 4 15)]
def r4:=[o 16 (.ld true 3 5),n (.st 3 4 16)]
def c:=(s (d r0 [0,1]) (s (d r1 [2,3,7,8,9,10,11,12]) (s (s (d r2 [6,13]) (i 14 (s (d r3 [5,14,15]) .ret) .skip)) (s (d r4 [5,14,16]) .ret))))
end RP
def RP:AFn:=⟨2,RP.c,[.cell 4 true 3],false⟩
namespace SB
def r0:=[o 2 (.a8 (.c .nil))]
def r1:=[o 3 (.q7 277003 1)]
def r2:=[m 9 0,o 10 (.len 9),o 11 (.a8 (k 0))]
def r3:=[o 12 (.bin .lss 11 10)]
def r4:=[o 13 (.a4 none 1 9 11),o 14 (.ld false 1 13),m 5 14]
def r5:=[o 6 (.q7 277006 3)]
def r6:=[m 15 5,o 16 (.len 15),o 17 (.a8 (k 0))]
def r7:=[o 18 (.bin .lss 17 16)]
def r8:=[o 19 (.a4 none 3 15 17),o 20 (.ld true 3 19),o 8 (.alloc 277008 [(.bool false),.nil,.nil]),n (.st 3 8 20)]
def r9:=[m 21 6,o 22 (.ld true 3 8),o 23 (.call 123 [22]),o 24 (.c4 277024 3 [23]),o 25 (.app 277025 3 56 21 24),m 6 25]
def DQ:=[o 26 (.bin .add 17 (k 1)),m 17 26]
def DW:=[m 27 3,m 28 6,o 29 (.c4 277029 1 [28]),o 30 (.app 277030 1 24 27 29),m 3 30]
def q6:=[o 31 (.bin .add 11 (k 1)),m 11 31]
def EJ:=[m 32 3,m 2 32]
def l2:=(s (p r7) (s (i 18 .skip (x 2)) (s (b 3 (s (d r8 [18,19,20]) (d r9 [8,21,22,23,24,25]))) (d DQ [26]))))
def l1:=(s (p r3) (s (i 12 .skip (x 0)) (s (b 1 (s (d r4 [12,13,14]) (s (p r5) (s (s (d r6 [5]) (b 2 (w l2))) (d DW [6,15,16,17,18,27,28,29,30]))))) (d q6 [31]))))
def c:=(s (d r0 [2]) (s (p r1) (s (s (d r2 [0]) (b 0 (w l1))) (s (d EJ [3,9,10,11,12,32]) .ret))))
end SB
def SB:AFn:=⟨1,SB.c,[.tmp 2],false⟩
namespace JP
def r0:=[o 4 (.a8 (k 0)),o 5 (.alloc 901005 [(.bool false),.nil,.nil])]
def r1:=[o 15 (.call 124 [(k 1)]),o 7 (.alloc 901007 [(.bool false),.nil,.nil]),o 6 (.a8 (k 0)),n (.st 3 7 15)]
def r2:=[o 8 (.a8 (k 0))]
def r3:=[m 16 8,m 17 1,o 18 (.bin .lss 16 17),m 19 18,g 20 19 true (.a8 6),g 21 19 true (.a8 0),g 22 19 true (.len 21),g 23 19 true (.bin .lss 20 22),
 o 24 (.pick 19 23 (.c (.bool false)))]
def r5:=[m 27 6,m 9 27]
def r6:=[m 28 9,m 29 0,o 30 (.len 29),o 31 (.bin .lss 28 30),m 32 31,g 33 32 true (.a8 0),g 34 32 true (.a8 9),g 35 32 true (.a4 none 1 33 34),
 g 36 32 true (.ld false 1 35),g 37 32 true (.a8 8),g 38 32 true (.a4 none 3 36 37),g 39 32 true (.ld true 3 38),g 40 32 true (.call 155 [39]),
 g 41 32 true (.bin .eql 40 (k 0)),o 42 (.pick 32 41 (.c (.bool false)))]
def r7:=[m 43 9,o 44 (.bin .add 43 (k 1)),m 9 44]
def r8:=[m 45 9,m 46 0,o 47 (.len 46),o 48 (.bin .eql 45 47)]
def r9:=[m 49 9,m 50 6,o 51 (.bin .neq 49 50)]
def DQ:=[m 52 0,m 53 9,m 54 0,m 55 6,m 56 0,m 57 6,o 58 (.a4 none 1 56 57),o 59 (.ld false 1 58),m 60 0,m 61 9,o 62 (.a4 none 1 60 61),
 o 63 (.ld false 1 62),o 64 (.a4 none 1 52 53),n (.st 1 64 59),o 65 (.a4 none 1 54 55),n (.st 1 65 63)]
def DW:=[o 66 (.ld true 3 7),o 67 (.call 152 [66]),n (.st 3 7 67)]
def q6:=[m 68 0,m 69 6,o 70 (.a4 none 1 68 69),o 71 (.ld false 1 70),m 72 8,o 73 (.a4 none 3 71 72),o 74 (.ld true 3 73),
 o 10 (.alloc 901010 [(.bool false),.nil,.nil]),n (.st 3 10 74)]
def EJ:=[o 75 (.ld true 3 7),o 76 (.ld true 3 10),o 77 (.call 128 [75,76]),n (.st 3 7 77)]
def v3:=[m 78 0,m 79 6,o 80 (.a4 none 1 78 79),o 81 (.ld false 1 80),o 82 (.len 81),o 83 (.a8 (k 0))]
def v5:=[o 84 (.bin .lss 83 82)]
def x7:=[m 85 83,m 11 85]
def GQ:=[m 86 0,m 87 6,o 88 (.a4 none 1 86 87),o 89 (.ld false 1 88),m 90 11,m 91 0,m 92 6,o 93 (.a4 none 1 91 92),o 94 (.ld false 1 93),m 95 11,
 o 96 (.a4 none 3 94 95),o 97 (.ld true 3 96),o 98 (.ld true 3 10),o 99 (.call 276 [97,98]),o 100 (.a4 none 3 89 90),n (.st 3 100 99)]
def x8:=[o 101 (.bin .add 83 (k 1)),m 83 101]
def r19:=[m 102 0,o 103 (.len 102),o 104 (.a8 (k 0))]
def bg:=[o 105 (.bin .lss 104 103)]
def da:=[m 106 104,m 12 106]
def de:=[m 107 0,m 108 12,o 109 (.a4 none 1 107 108),o 110 (.ld false 1 109),m 111 8,o 112 (.a4 none 3 110 111),o 113 (.ld true 3 112),
 o 13 (.alloc 901013 [(.bool false),.nil,.nil]),n (.st 3 13 113)]
def fu:=[m 114 12,m 115 6,o 116 (.bin .eql 114 115),m 117 116,g 118 117 false (.ld true 3 13),g 119 117 false (.call 155 [118]),
 g 120 117 false (.bin .eql 119 (k 0)),o 121 (.pick 117 (.c (.bool true)) 120)]
def LP:=[m 122 0,m 123 12,o 124 (.a4 none 1 122 123),o 125 (.ld false 1 124),o 126 (.len 125),o 127 (.a8 (k 0))]
def QJ:=[o 128 (.bin .lss 127 126)]
def VH:=[m 129 127,m 14 129]
def VI:=[m 130 0,m 131 12,o 132 (.a4 none 1 130 131),o 133 (.ld false 1 132),m 134 14,m 135 0,m 136 12,o 137 (.a4 none 1 135 136),o 138 (.ld false 1 137),
 m 139 14,o 140 (.a4 none 3 138 139),o 141 (.ld true 3 140),o 142 (.ld true 3 13),m 143 0,m 144 6,o 145 (.a4 none 1 143 144),o 146 (.ld false 1 145),
 m 147 14,o 148 (.a4 none 3 146 147),o 149 (.ld true 3 148),o 150 (.call 128 [142,149]),o 151 (.call 153 [141,150]),o 152 (.a4 none 3 133 134),
 n (.st 3 152 151)]
def X8:=[o 153 (.bin .add 127 (k 1)),m 127 153]
def X9:=[o 154 (.bin .add 104 (k 1)),m 104 154]
def r30:=[m 155 6,o 156 (.bin .add 155 (k 1)),m 6 156]
def r4:=[m 25 8,o 26 (.bin .add 25 (k 1)),m 8 26]
def px:=[m 157 6,o 158 (.ld true 3 7),m 4 157,n (.st 3 5 158)]
def l2:=(s (s (d r6 [28,29,30,31,32,33,34,35,36,37,38,39,40,41]) (i 42 .skip (x 2))) (b 3 (d r7 [42,43,44])))
def l3:=(s (p v5) (s (i 84 .skip (x 4)) (s (b 5 (s (d x7 [84,85]) (e GQ [11,86,87,88,89,90,91,92,93,94,95,96,97,98,99,100]))) (d x8 [101]))))
def l5:=(s (p QJ) (s (i 128 .skip (x 8)) (s (b 9 (s (d VH [128,129]) (e VI [14,130,131,132,133,134,135,136,137,138,139,140,141,142,143,144,145,146,147,148,149,150,151,152]))) (d X8 [153]))))
def l4:=(s (p bg) (s (i 105 .skip (x 6)) (s (b 7 (s (d da [105,106]) (s (d de [107,108,109,110,111,112,113]) (s (s (d fu [114,115,116,117,118,119,120]) (i 121 (x 7) .skip)) (s (d LP [121,122,123,124,125]) (b 8 (w l5))))))) (d X9 [12,13,121,126,127,128,154]))))
def l1:=(s (s (d r3 [16,17,18,19,20,21,22,23]) (i 24 .skip (x 0))) (s (b 1 (s (d r5 [24,27]) (s (b 2 (w l2)) (s (s (d r8 [42,45,46,47]) (i 48 (x 1) .skip)) (s (s (d r9 [48,49,50]) (i 51 (s (e DQ [9,51,52,53,54,55,56,57,58,59,60,61,62,63,64,65]) (d DW [66,67])) .skip)) (s (d q6 [9,51,68,69,70,71,72,73,74]) (s (d EJ [75,76,77]) (s (s (d v3 [78,79,80,81]) (b 4 (w l3))) (s (s (d r19 [10,82,83,84,102]) (b 6 (w l4))) (d r30 [103,104,105,155,156])))))))))) (d r4 [9,25,26,48])))
def c:=(s (d r0 [4]) (s (d r1 [15]) (s (s (p r2) (b 0 (w l1))) (s (e px [0,1,6,7,8,24,157,158]) .ret))))
end JP
def JP:AFn:=⟨2,JP.c,[.tmp 4,.cell 5 true 3],false⟩
namespace SA
def r0:=[o 4 (.a8 (.c .nil)),o 5 (.a8 (k 0))]
def r1:=[m 15 0,o 16 (.c8 277 [15]),m 6 16]
def r2:=[m 17 6,o 18 (.len 17),o 19 (.a8 (k 0))]
def r3:=[o 20 (.bin .lss 19 18)]
def r4:=[m 21 19,m 7 21]
def r5:=[m 22 6,m 23 7,m 24 6,m 25 7,o 26 (.a4 none 1 24 25),o 27 (.ld false 1 26),m 28 1,m 29 7,o 30 (.a4 none 1 28 29),o 31 (.ld false 1 30),
 o 32 (.app 32 3 56 27 31),o 33 (.a4 none 1 22 23),n (.st 1 33 32)]
def r6:=[o 34 (.bin .add 19 (k 1)),m 19 34]
def r7:=[m 36 6,m 37 0,o 38 (.len 37),o 39 (.c8 901 [36,38]),m 35 39,o 40 (.ext 35 0),o 41 (.ext 35 1),o 9 (.alloc 9 [(.bool false),.nil,.nil]),m 8 40,
 n (.st 3 9 41)]
def r8:=[m 42 8,m 43 0,o 44 (.len 43),o 45 (.bin .lss 42 44)]
def r9:=[o 4 (.a8 (.c .nil)),o 5 (.a8 (k 11))]
def DQ:=[o 10 (.q7 10 1)]
def DW:=[m 46 6,o 47 (.len 46),o 48 (.a8 (k 0))]
def q6:=[o 49 (.bin .lss 48 47)]
def EJ:=[m 50 48,m 11 50]
def v3:=[o 12 (.q7 12 3)]
def v5:=[m 51 6,m 52 11,o 53 (.a4 none 1 51 52),o 54 (.ld false 1 53),m 55 0,o 56 (.len 55),o 57 (.ay 3 54 (some 56) none),o 58 (.len 57),o 59 (.a8 (k 0))]
def x7:=[o 60 (.bin .lss 59 58)]
def GQ:=[o 61 (.a4 none 3 57 59),o 62 (.ld true 3 61),o 14 (.alloc 14 [(.bool false),.nil,.nil]),n (.st 3 14 62)]
def x8:=[m 63 12,o 64 (.ld true 3 14),o 65 (.call 123 [64]),o 66 (.c4 66 3 [65]),o 67 (.app 67 3 56 63 66),m 12 67]
def r19:=[o 68 (.bin .add 59 (k 1)),m 59 68]
def bg:=[m 69 10,m 70 12,o 71 (.c4 71 1 [70]),o 72 (.app 72 1 24 69 71),m 10 72]
def da:=[o 73 (.bin .add 48 (k 1)),m 48 73]
def de:=[m 74 10,m 4 74,o 5 (.a8 (k 0))]
def l1:=(s (p r3) (s (i 20 .skip (x 0)) (s (b 1 (s (d r4 [20,21]) (e r5 [7,22,23,24,25,26,27,28,29,30,31,32,33]))) (d r6 [34]))))
def l3:=(s (p x7) (s (i 60 .skip (x 4)) (s (b 5 (s (d GQ [60,61,62]) (d x8 [14,63,64,65,66,67]))) (d r19 [68]))))
def l2:=(s (p q6) (s (i 49 .skip (x 2)) (s (b 3 (s (d EJ [49,50]) (s (p v3) (s (s (d v5 [11,51,52,53,54,55,56]) (b 4 (w l3))) (d bg [12,57,58,59,60,69,70,71,72]))))) (d da [73]))))
def c:=(s (d r0 [4,5]) (s (d r1 [15,16]) (s (s (d r2 [17]) (b 0 (w l1))) (s (s (d r7 [1,9,18,19,20,35,36,37,38,39,40,41]) (s (d r8 [8,42,43,44]) (i 45 (s (d r9 [0,6,45]) .ret) .skip))) (s (d DQ [45]) (s (s (d DW [46]) (b 2 (w l2))) (s (d de [0,6,10,47,48,49,74]) .ret)))))))
end SA
def SA:AFn:=⟨2,SA.c,[.tmp 4,.tmp 5],false⟩
namespace M9
def r0:=[o 2 (.a8 (.c .nil)),o 3 (.a8 (k 0))]
def r1:=[m 7 0,o 8 (.call 239 [7]),o 9 (.un .not 8),m 6 9]
def r2:=[o 2 (.a8 (.c .nil)),o 3 (.a8 (k 2))]
def r3:=[m 11 0,o 12 (.len 11),m 13 0,o 14 (.a4 none 1 13 (k 0)),o 15 (.ld false 1 14),o 16 (.len 15),o 17 (.bin .neq 12 16),m 10 17]
def r4:=[o 2 (.a8 (.c .nil)),o 3 (.a8 (k 1))]
def r5:=[m 19 0,o 20 (.len 19),o 21 (.call 240 [20]),m 18 21,o 22 (.ext 18 0),o 23 (.ext 18 1),m 4 22,m 5 23]
def r6:=[m 24 0,m 25 4,o 26 (.call 278 [24,25]),o 27 (.ext 26 0),o 28 (.ext 26 1),m 2 27,m 3 28]
def c:=(s (d r0 [2,3]) (s (b 0 (s (d r1 [7,8,9]) (i 6 (s (d r2 [0,6]) .ret) (s (d r3 [6,11,12,13,14,15,16,17]) (i 10 (s (d r4 [0,10]) .ret) .skip))))) (s (d r5 [5,10,18,19,20,21,22,23]) (s (d r6 [0,4,24,25,26,27,28]) .ret))))
end M9
def M9:AFn:=⟨1,M9.c,[.tmp 2,.tmp 3],false⟩
structure InvGLib (L:Lib):Prop extends R09GLib L where
 RP:L 276=some F.RP
 SB:L 277=some F.SB
 JP:L 901=some F.JP
 SA:L 278=some F.SA
 M9:L 279=some F.M9
end Go.Eng.F

namespace Go.Eng.F
open C
namespace TL
def r0:=[o 4 (.a8 (k 0))]
def r1:=[m 5 1,o 6 (.bin .lss 5 (k 1))]
def r2:=[o 4 (.a8 (k 0))]
def r3:=[m 7 0,m 8 1,o 9 (.bin .rem 7 8),m 0 9]
def r4:=[m 10 0,o 11 (.bin .lss 10 (k 0))]
def r5:=[m 12 0,m 13 1,o 14 (.bin .add 12 13),m 0 14]
def r6:=[m 15 0,m 4 15]
def c:=(s (d r0 [4]) (s (s (d r1 [5]) (i 6 (s (d r2 [0,1,6]) .ret) .skip)) (s (d r3 [6,7,8,9]) (s (s (d r4 [10]) (i 11 (d r5 [1,11,12,13,14]) .skip)) (s (d r6 [0,1,11,15]) .ret)))))
end TL
def TL:AFn:=⟨2,TL.c,[.tmp 4],false⟩
namespace TG
def r0:=[o 4 (.a8 (k 0))]
def r1:=[m 5 1,o 6 (.bin .geq 5 (k 0)),m 7 6,g 8 7 true (.a8 1),g 9 7 true (.a8 0),g 10 7 true (.len 9),g 11 7 true (.bin .lss 8 10),
 o 12 (.pick 7 11 (.c (.bool false)))]
def r2:=[m 13 0,m 14 1,o 15 (.a4 none 1 13 14),o 16 (.ld false 1 15),m 4 16]
def r3:=[o 4 (.a8 (k 0))]
def c:=(s (d r0 [4]) (s (s (d r1 [5,6,7,8,9,10,11]) (i 12 (s (d r2 [0,1,12,13,14,15,16]) .ret) .skip)) (s (d r3 [0,1,12]) .ret)))
end TG
def TG:AFn:=⟨2,TG.c,[.tmp 4],false⟩
structure WorldLib (L:Lib):Prop extends dh L where
 TL:L 34=some F.TL
 TG:L 35=some F.TG
end Go.Eng.F

namespace Go.Eng.F
open C
namespace TJ
def r0:=[o 4 (.a8 (.c .nil))]
def r1:=[o 5 (.q7 5 3)]
def r2:=[o 6 (.a8 (k 0))]
def r3:=[m 8 6,m 9 1,o 10 (.bin .lss 8 9)]
def r5:=[m 13 0,m 14 6,o 15 (.call 35 [13,14]),o 16 (.call 34 [15,(k 2000)]),m 7 16]
def r6:=[m 17 5,m 18 7,o 19 (.bin .rem 18 (k 25)),o 20 (.bin .sub 19 (k 12)),m 21 7,o 22 (.bin .quo 21 (k 25)),o 23 (.bin .rem 22 (k 8)),
 o 24 (.bin .add (k 1) 23),o 25 (.call 125 [20,24]),o 26 (.c4 26 3 [25]),o 27 (.app 27 3 56 17 26),m 5 27]
def r4:=[m 11 6,o 12 (.bin .add 11 (k 1)),m 6 12]
def r7:=[m 28 5,m 4 28]
def l1:=(s (s (d r3 [8,9]) (i 10 .skip (x 0))) (s (b 1 (s (d r5 [10,13,14,15,16]) (d r6 [7,17,18,19,20,21,22,23,24,25,26,27]))) (d r4 [11,12])))
def c:=(s (d r0 [4]) (s (p r1) (s (s (p r2) (b 0 (w l1))) (s (d r7 [0,1,5,6,10,28]) .ret))))
end TJ
def TJ:AFn:=⟨2,TJ.c,[.tmp 4],false⟩
namespace TK
def r0:=[o 4 (.alloc 4 [.nil,.nil,.nil,(.bool false),.nil,.nil])]
def r1:=[m 8 0,m 9 1,m 10 1,o 11 (.bin .mul 9 10),m 12 1,o 13 (.bin .mul (k 2) 12),o 14 (.bin .add 11 13),o 15 (.bin .add 14 (k 1)),o 16 (.call 141 [8,15]),
 m 5 16]
def r2:=[m 17 5,m 18 1,m 19 1,o 20 (.bin .mul 18 19),m 21 1,m 22 1,o 23 (.bin .mul 21 22),m 24 1,o 25 (.bin .add 23 24),o 26 (.ay 3 17 (some 20) (some 25)),
 m 27 5,m 28 1,m 29 1,o 30 (.bin .mul 28 29),m 31 1,o 32 (.bin .add 30 31),m 33 1,m 34 1,o 35 (.bin .mul 33 34),m 36 1,o 37 (.bin .mul (k 2) 36),
 o 38 (.bin .add 35 37),o 39 (.ay 3 27 (some 32) (some 38)),m 40 5,m 41 1,m 42 1,o 43 (.bin .mul 41 42),m 44 1,o 45 (.bin .mul (k 2) 44),
 o 46 (.bin .add 43 45),o 47 (.a4 none 3 40 46),q 48 [6] (.ld true 3 47),
 o 49 (.build [.nil,.nil,.nil,(.bool false),.nil,.nil] [(1,1,26),(2,1,39),(3,3,48)]),o 6 (.alloc 6 [.nil,.nil,.nil,(.bool false),.nil,.nil]),
 n (.st 6 6 49)]
def r3:=[o 7 (.a8 (k 0))]
def r4:=[m 50 7,m 51 1,o 52 (.bin .lss 50 51)]
def r6:=[o 55 (.a7 6 0),q 56 [67] (.ld false 1 55),m 57 5,m 58 7,m 59 1,o 60 (.bin .mul 58 59),m 61 7,m 62 1,o 63 (.bin .mul 61 62),m 64 1,
 o 65 (.bin .add 63 64),o 66 (.ay 3 57 (some 60) (some 65)),o 67 (.c4 67 1 [66]),o 68 (.app 68 1 24 56 67),o 69 (.a7 6 0),n (.st 1 69 68)]
def r5:=[m 53 7,o 54 (.bin .add 53 (k 1)),m 7 54]
def r7:=[o 70 (.ld true 6 6),n (.st 6 4 70)]
def l1:=(s (s (d r4 [50,51]) (i 52 .skip (x 0))) (s (b 1 (e r6 [52,55,56,57,58,59,60,61,62,63,64,65,66,67,68,69])) (d r5 [53,54])))
def c:=(s (p r0) (s (d r1 [0,8,9,10,11,12,13,14,15,16]) (s (e r2 [17,18,19,20,21,22,23,24,25,26,27,28,29,30,31,32,33,34,35,36,37,38,39,40,41,42,43,44,45,46,47,48,49]) (s (s (p r3) (b 0 (w l1))) (s (d r7 [1,5,6,7,52,70]) .ret)))))
end TK
def TK:AFn:=⟨2,TK.c,[.cell 4 true 6],false⟩
structure RatsGLib (L:Lib):Prop extends WorldLib L,a9 L where
 TJ:L 141=some F.TJ
 TK:L 142=some F.TK
end Go.Eng.F

namespace Go.Eng.F
open C
namespace TI
def r0:=[o 4 (.a8 (.c .nil))]
def r1:=[m 8 0,m 9 1,m 10 1,o 11 (.bin .mul 9 10),o 12 (.call 141 [8,11]),m 5 12]
def r2:=[o 6 (.q7 6 1)]
def r3:=[o 7 (.a8 (k 0))]
def r4:=[m 13 7,m 14 1,o 15 (.bin .lss 13 14)]
def r6:=[m 18 6,m 19 5,m 20 7,m 21 1,o 22 (.bin .mul 20 21),m 23 7,m 24 1,o 25 (.bin .mul 23 24),m 26 1,o 27 (.bin .add 25 26),
 o 28 (.ay 3 19 (some 22) (some 27)),o 29 (.c4 29 1 [28]),o 30 (.app 30 1 24 18 29),m 6 30]
def r5:=[m 16 7,o 17 (.bin .add 16 (k 1)),m 7 17]
def r7:=[m 31 6,m 4 31]
def l1:=(s (s (d r4 [13,14]) (i 15 .skip (x 0))) (s (b 1 (d r6 [15,18,19,20,21,22,23,24,25,26,27,28,29,30])) (d r5 [16,17])))
def c:=(s (d r0 [4]) (s (d r1 [0,8,9,10,11,12]) (s (p r2) (s (s (p r3) (b 0 (w l1))) (s (d r7 [1,5,6,7,15,31]) .ret)))))
end TI
def TI:AFn:=⟨2,TI.c,[.tmp 4],false⟩
structure WMatLib (L:Lib):Prop extends RatsGLib L where
 TI:L 280=some F.TI
end Go.Eng.F

namespace Go.Eng.F
open C
namespace NA
def r0:=[o 2 (.box 2 0),o 3 (.box 3 1),o 4 (.a8 (.c (.bool false)))]
def r1:=[o 6 (.a7 2 0),o 7 (.ld false 1 6),o 8 (.len 7),o 9 (.a7 3 0),o 10 (.ld false 1 9),o 11 (.len 10),o 12 (.bin .neq 8 11),m 13 12,
 g 14 13 false (.a7 2 1),g 15 13 false (.ld false 1 14),g 16 13 false (.a7 3 1),g 17 13 false (.ld false 1 16),g 18 13 false (.call 129 [15,17]),
 g 19 13 false (.un .not 18),o 20 (.pick 13 (.c (.bool true)) 19),m 21 20,g 22 21 false (.a7 2 2),g 23 21 false (.ld false 1 22),
 g 24 21 false (.a7 3 2),g 25 21 false (.ld false 1 24),g 26 21 false (.call 129 [23,25]),g 27 21 false (.un .not 26),
 o 28 (.pick 21 (.c (.bool true)) 27),m 29 28,g 30 29 false (.a7 2 3),g 31 29 false (.ld true 3 30),g 32 29 false (.a7 3 3),
 g 33 29 false (.ld true 3 32),g 34 29 false (.call 127 [31,33]),g 35 29 false (.bin .neq 34 (k 0)),o 36 (.pick 29 (.c (.bool true)) 35)]
def r2:=[o 4 (.a8 (.c (.bool false)))]
def r3:=[o 5 (.a8 (k 0))]
def r4:=[m 37 5,o 38 (.a7 2 0),o 39 (.ld false 1 38),o 40 (.len 39),o 41 (.bin .lss 37 40)]
def r6:=[o 44 (.a7 2 0),o 45 (.ld false 1 44),m 46 5,o 47 (.a4 none 1 45 46),o 48 (.ld false 1 47),o 49 (.a7 3 0),o 50 (.ld false 1 49),m 51 5,
 o 52 (.a4 none 1 50 51),o 53 (.ld false 1 52),o 54 (.call 129 [48,53]),o 55 (.un .not 54)]
def r7:=[o 4 (.a8 (.c (.bool false)))]
def r5:=[m 42 5,o 43 (.bin .add 42 (k 1)),m 5 43]
def r8:=[o 4 (.a8 (.c (.bool true)))]
def l1:=(s (s (d r4 [37,38,39,40]) (i 41 .skip (x 0))) (s (b 1 (s (e r6 [41,44,45,46,47,48,49,50,51,52,53,54]) (i 55 (s (d r7 [2,3,5,55]) .ret) .skip))) (d r5 [42,43,55])))
def c:=(s (d r0 [0,1,4]) (s (s (d r1 [6,7,8,9,10,11,12,13,14,15,16,17,18,19,20,21,22,23,24,25,26,27,28,29,30,31,32,33,34,35]) (i 36 (s (d r2 [2,3,36]) .ret) .skip)) (s (s (d r3 [36]) (b 0 (w l1))) (s (d r8 [2,3,5,41]) .ret))))
end NA
def NA:AFn:=⟨2,NA.c,[.tmp 4],false⟩
structure ModGLib (L:Lib):Prop extends fe L,o5 L,g9 L where
 NA:L 167=some F.NA
end Go.Eng.F

namespace Go.Eng.F
open C
structure jj (L:Lib):Prop extends ik L,WorldLib L where
structure df (L:Lib):Prop extends jj L where
end Go.Eng.F

namespace Go.Eng.F
open C
namespace SE
def r0:=[o 2 (.box 2 0),o 3 (.box 3 1),o 4 (.a8 (.c (.bool false)))]
def r1:=[o 5 (.a7 2 0),o 6 (.ld false 1 5),o 7 (.a7 3 0),o 8 (.ld false 1 7),o 9 (.call 173 [6,8]),m 10 9,g 11 10 true (.a7 2 1),
 g 12 10 true (.ld false 1 11),g 13 10 true (.a7 3 1),g 14 10 true (.ld false 1 13),g 15 10 true (.call 173 [12,14]),
 o 16 (.pick 10 15 (.c (.bool false))),m 4 16]
def c:=(s (d r0 [0,1,4]) (s (d r1 [2,3,5,6,7,8,9,10,11,12,13,14,15,16]) .ret))
end SE
def SE:AFn:=⟨2,SE.c,[.tmp 4],false⟩
structure BldGLib (L:Lib):Prop extends df L,o5 L,z8 L,v7 L where
 SE:L 176=some F.SE
end Go.Eng.F

namespace Go.Eng.F
open C
namespace O5
def r0:=[o 0 (.a8 (.c (.bool false)))]
def r1:=[o 5 (.call 124 [(k 1)]),o 6 (.call 125 [(k 1),(k 2)]),o 1 (.alloc 1 [(.bool false),.nil,.nil]),o 2 (.alloc 2 [(.bool false),.nil,.nil]),n (.st 3 1 5),
 n (.st 3 2 6)]
def r2:=[q 8 [13,3] (.ld true 3 1),o 9 (.c4 9 3 [8]),q 10 [9,3] (.ld true 3 1),q 11 [9,3] (.ld true 3 2),
 q 12 [9,3] (.call 152 [11]),o 13 (.c4 13 3 [10,12]),o 14 (.build [.nil,.nil] [(0,1,9),(1,1,13)]),q 15 [3] (.call 207 [14]),
 m 7 15,o 16 (.ext 7 0),o 17 (.ext 7 1),o 3 (.alloc 3 [.nil,.nil,.nil,(.bool false),.nil,.nil]),n (.st 6 3 16),m 4 17]
def r3:=[m 18 4,o 19 (.bin .eql 18 (k 0)),m 20 19,g 21 20 true (.ld true 6 3),g 22 20 true (.ld true 3 2),g 23 20 true (.c4 23 3 [22]),
 g 24 20 true (.c4 24 1 [23]),g 25 20 true (.ld true 3 1),g 26 20 true (.c4 26 3 [25]),g 27 20 true (.ld true 3 2),g 28 20 true (.c4 28 3 [27]),
 g 29 20 true (.ld true 3 1),g 30 20 true (.build [.nil,.nil,.nil,(.bool false),.nil,.nil] [(0,1,24),(1,1,26),(2,1,28),(3,3,29)]),
 g 31 20 true (.call 167 [21,30]),o 32 (.pick 20 31 (.c (.bool false))),m 0 32]
def c:=(s (d r0 [0]) (s (d r1 [5,6]) (s (e r2 [7,8,9,10,11,12,13,14,15,16,17]) (s (d r3 [1,2,3,4,18,19,20,21,22,23,24,25,26,27,28,29,30,31,32]) .ret))))
end O5
def O5:AFn:=⟨0,O5.c,[.tmp 0],false⟩
structure LawFLib (L:Lib):Prop extends StGLib L,ModGLib L,BldGLib L,RatsGLib L where
 O5:L 215=some F.O5
end Go.Eng.F

namespace Go.Eng.F
open C
namespace S9
def r0:=[o 1 (.box 1 0),o 2 (.a8 (.c (.bool false)))]
def r1:=[o 3 (.ld true 6 1),o 4 (.call 130 [3]),m 5 4,g 6 5 true (.a7 1 0),g 7 5 true (.ld false 1 6),g 8 5 true (.len 7),g 9 5 true (.bin .leq 8 (k 16)),
 o 10 (.pick 5 9 (.c (.bool false))),m 2 10]
def c:=(s (d r0 [0,2]) (s (d r1 [1,3,4,5,6,7,8,9,10]) .ret))
end S9
def S9:AFn:=⟨1,S9.c,[.tmp 2],false⟩
namespace SJ
def r0:=[o 1 (.box 1 0),o 2 (.a8 (.c (.bool false)))]
def r1:=[o 3 (.ld true 6 1),o 4 (.call 136 [3]),m 5 4,g 6 5 true (.a7 1 0),g 7 5 true (.ld false 1 6),g 8 5 true (.len 7),g 9 5 true (.bin .leq 8 (k 16)),
 o 10 (.pick 5 9 (.c (.bool false))),m 2 10]
def c:=(s (d r0 [0,2]) (s (d r1 [1,3,4,5,6,7,8,9,10]) .ret))
end SJ
def SJ:AFn:=⟨1,SJ.c,[.tmp 2],false⟩
namespace SH
def r0:=[o 2 (.box 2 0),o 4 (.alloc 4 [.nil,.nil,.nil,(.bool false),.nil,.nil]),o 5 (.a8 (k 0))]
def r1:=[o 14 (.ld true 6 2),o 15 (.call 284 [14]),o 16 (.un .not 15)]
def r2:=[o 17 (.build [.nil,.nil,.nil,(.bool false),.nil,.nil] []),n (.st 6 4 17),o 5 (.a8 (k 2))]
def r3:=[m 18 1,o 19 (.len 18),o 20 (.a7 2 0),o 21 (.ld false 1 20),o 22 (.len 21),o 23 (.bin .neq 19 22)]
def r4:=[o 24 (.build [.nil,.nil,.nil,(.bool false),.nil,.nil] []),n (.st 6 4 24),o 5 (.a8 (k 1))]
def r5:=[o 6 (.a8 (k 0))]
def r6:=[m 25 6,m 26 1,o 27 (.len 26),o 28 (.bin .lss 25 27)]
def r8:=[m 31 1,m 32 6,o 33 (.a4 none 1 31 32),o 34 (.ld false 1 33),o 35 (.len 34),m 36 1,o 37 (.len 36),o 38 (.bin .neq 35 37)]
def r9:=[o 39 (.build [.nil,.nil,.nil,(.bool false),.nil,.nil] []),n (.st 6 4 39),o 5 (.a8 (k 1))]
def r7:=[m 29 6,o 30 (.bin .add 29 (k 1)),m 6 30]
def DQ:=[m 40 1,o 41 (.len 40),o 42 (.bin .eql 41 (k 0))]
def DW:=[o 43 (.a7 2 3),o 44 (.ld true 3 43),o 45 (.call 123 [44]),o 46 (.build [.nil,.nil,.nil,(.bool false),.nil,.nil] [(3,3,45)]),n (.st 6 4 46),
 o 5 (.a8 (k 0))]
def q6:=[m 48 1,o 49 (.call 279 [48]),m 47 49,o 50 (.ext 47 0),o 51 (.ext 47 1),m 7 50,m 8 51]
def EJ:=[m 52 8,o 53 (.bin .neq 52 (k 0))]
def v3:=[o 54 (.build [.nil,.nil,.nil,(.bool false),.nil,.nil] []),n (.st 6 4 54),o 5 (.a8 (k 11))]
def v5:=[m 56 1,o 57 (.a7 2 0),o 58 (.ld false 1 57),o 59 (.call 241 [56,58]),m 55 59,o 60 (.ext 55 0),o 61 (.ext 55 1),m 9 60,m 10 61]
def x7:=[m 63 9,m 64 7,o 65 (.call 241 [63,64]),m 62 65,o 66 (.ext 62 0),o 67 (.ext 62 1),m 11 66,m 12 67]
def GQ:=[m 68 11,m 69 1,o 70 (.a7 2 1),q 71 [13] (.ld false 1 70),q 72 [13] (.call 138 [69,71]),o 73 (.a7 2 3),
 q 74 [13] (.ld true 3 73),q 75 [13] (.call 123 [74]),
 o 76 (.build [.nil,.nil,.nil,(.bool false),.nil,.nil] [(0,1,68),(1,1,72),(3,3,75)]),
 o 13 (.alloc 13 [.nil,.nil,.nil,(.bool false),.nil,.nil]),n (.st 6 13 76)]
def x8:=[m 77 7,o 78 (.call 212 [77]),o 79 (.a7 2 2),o 80 (.ld false 1 79),o 81 (.call 138 [78,80]),o 82 (.a7 13 2),n (.st 1 82 81)]
def r19:=[o 83 (.ld true 6 13),n (.st 6 4 83),o 5 (.a8 (k 0))]
def l1:=(s (s (d r6 [25,26,27]) (i 28 .skip (x 0))) (s (b 1 (s (d r8 [28,31,32,33,34,35,36,37]) (i 38 (s (d r9 [1,2,6,38,39]) .ret) .skip))) (d r7 [29,30,38])))
def c:=(s (d r0 [0,5]) (s (s (d r1 [14,15]) (i 16 (s (d r2 [1,2,16,17]) .ret) .skip)) (s (s (d r3 [16,18,19,20,21,22]) (i 23 (s (d r4 [1,2,23,24]) .ret) .skip)) (s (s (d r5 [23]) (b 0 (w l1))) (s (s (d DQ [6,28,40,41]) (i 42 (s (d DW [1,2,42,43,44,45,46]) .ret) .skip)) (s (d q6 [42,47,48,49,50,51]) (s (s (d EJ [8,52]) (i 53 (s (d v3 [1,2,7,53,54]) .ret) .skip)) (s (d v5 [10,53,55,56,57,58,59,60,61]) (s (d x7 [9,12,62,63,64,65,66,67]) (s (e GQ [1,11,68,69,70,71,72,73,74,75,76]) (s (e x8 [2,7,77,78,79,80,81,82]) (s (d r19 [13,83]) .ret))))))))))))
end SH
def SH:AFn:=⟨2,SH.c,[.cell 4 true 6,.tmp 5],false⟩
structure EquGLib (L:Lib):Prop extends ji L,InvGLib L,WMatLib L,StGLib L,LawFLib L where
 S9:L 281=some F.S9
 SJ:L 284=some F.SJ
 SH:L 285=some F.SH
end Go.Eng.F

namespace Go.Eng.F
open C
namespace SW
def r0:=[o 4 (.a8 (.c .nil))]
def r1:=[m 5 1,o 6 (.bin .lss 5 (k 0))]
def r2:=[o 7 (.bad),n (.bad)]
def r3:=[m 8 1,m 9 0,o 10 (.bh 9),m 11 0,o 12 (.len 11),o 13 (.bin .sub 10 12),o 14 (.bin .sub 8 13),m 1 14]
def r4:=[m 15 1,o 16 (.bin .gtr 15 (k 0))]
def r5:=[m 17 0,m 18 0,o 19 (.bh 18),o 20 (.ay 3 17 none (some 19)),m 21 1,o 22 (.gv 227022 3 56 20 21),m 23 0,o 24 (.len 23),
 o 25 (.ay 3 22 none (some 24)),m 0 25]
def r6:=[m 26 0,m 4 26]
def c:=(s (d r0 [4]) (s (s (d r1 [5]) (i 6 (d r2 [6,7]) .skip)) (s (s (d r3 [6,8,9,10,11,12,13,14]) (s (d r4 [15]) (i 16 (d r5 [1,16,17,18,19,20,21,22,23,24,25]) .skip))) (s (d r6 [0,1,16,26]) .ret))))
end SW
def SW:AFn:=⟨2,SW.c,[.tmp 4],false⟩
namespace SV
def r0:=[o 2 (.a8 (.c .nil))]
def r1:=[o 3 (.a8 (k 0))]
def r2:=[m 9 0,o 10 (.len 9),o 11 (.a8 (k 0))]
def r3:=[o 12 (.bin .lss 11 10)]
def r4:=[o 13 (.a4 none 1 9 11),o 14 (.ld false 1 13),m 5 14]
def r5:=[m 15 3,m 16 5,o 17 (.len 16),o 18 (.bin .add 15 17),m 3 18]
def r6:=[m 19 3,o 20 (.bin .lss 19 (k 0))]
def r7:=[o 21 (.bad),n (.bad)]
def r8:=[o 22 (.bin .add 11 (k 1)),m 11 22]
def r9:=[m 23 3,o 24 (.c8 227 [(.c .nil),23]),m 6 24]
def DQ:=[m 25 0,o 26 (.len 25),o 27 (.a8 (k 0))]
def DW:=[o 28 (.bin .lss 27 26)]
def q6:=[o 29 (.a4 none 1 25 27),o 30 (.ld false 1 29),m 8 30]
def EJ:=[m 31 6,m 32 8,o 33 (.app 33 3 56 31 32),m 6 33]
def v3:=[o 34 (.bin .add 27 (k 1)),m 27 34]
def v5:=[m 35 6,m 2 35]
def l1:=(s (p r3) (s (i 12 .skip (x 0)) (s (b 1 (s (d r4 [12,13,14]) (s (d r5 [5,15,16,17,18]) (s (d r6 [19]) (i 20 (d r7 [20,21]) .skip))))) (d r8 [20,22]))))
def l2:=(s (p DW) (s (i 28 .skip (x 2)) (s (b 3 (s (d q6 [28,29,30]) (d EJ [8,31,32,33]))) (d v3 [34]))))
def c:=(s (d r0 [2]) (s (p r1) (s (s (p r2) (b 0 (w l1))) (s (d r9 [3,9,10,11,12,23,24]) (s (s (d DQ [0]) (b 2 (w l2))) (s (d v5 [6,25,26,27,28,35]) .ret))))))
end SV
def SV:AFn:=⟨1,SV.c,[.tmp 2],false⟩
namespace O9
def r0:=[o 2 (.a8 (.c (.bool false)))]
def r1:=[m 6 0,o 7 (.len 6),o 8 (.bin .lss 7 (k 1)),m 9 8,g 10 9 false (.a8 0),g 11 9 false (.len 10),g 12 9 false (.bin .gtr 11 (k 52)),
 o 13 (.pick 9 (.c (.bool true)) 12)]
def r2:=[o 2 (.a8 (.c (.bool false)))]
def r3:=[m 14 0,o 15 (.a4 none 1 14 (k 0)),o 16 (.ld false 1 15),o 17 (.len 16),m 3 17]
def r4:=[m 18 0,o 19 (.len 18),o 20 (.a8 (k 0))]
def r5:=[o 21 (.bin .lss 20 19)]
def r6:=[o 22 (.a4 none 1 18 20),o 23 (.ld false 1 22),m 5 23]
def r7:=[m 24 5,o 25 (.len 24),m 26 3,o 27 (.bin .neq 25 26)]
def r8:=[o 2 (.a8 (.c (.bool false)))]
def r9:=[o 28 (.bin .add 20 (k 1)),m 20 28]
def DQ:=[m 29 3,o 30 (.bin .geq 29 (k 1)),m 31 30,g 32 31 true (.a8 3),g 33 31 true (.bin .leq 32 (k 52)),o 34 (.pick 31 33 (.c (.bool false))),m 2 34]
def l1:=(s (p r5) (s (i 21 .skip (x 0)) (s (b 1 (s (d r6 [21,22,23]) (s (d r7 [5,24,25,26]) (i 27 (s (d r8 [3,18,19,20,27]) .ret) .skip)))) (d r9 [27,28]))))
def c:=(s (d r0 [2]) (s (s (d r1 [6,7,8,9,10,11,12]) (i 13 (s (d r2 [0,13]) .ret) .skip)) (s (d r3 [13,14,15,16,17]) (s (s (d r4 [0]) (b 0 (w l1))) (s (d DQ [3,18,19,20,21,29,30,31,32,33,34]) .ret)))))
end O9
def O9:AFn:=⟨1,O9.c,[.tmp 2],false⟩
namespace O6
def r0:=[o 2 (.a8 (.c .nil)),o 3 (.a8 (k 0))]
def r1:=[m 7 0,o 8 (.bin .lss 7 (k 1)),m 9 8,g 10 9 false (.a8 0),g 11 9 false (.bin .gtr 10 (k 52)),o 12 (.pick 9 (.c (.bool true)) 11)]
def r2:=[o 2 (.a8 (.c .nil)),o 3 (.a8 (k 1))]
def r3:=[m 13 0,o 14 (.mk 14 1 24 [.nil] 13 13),m 4 14]
def r4:=[m 15 4,o 16 (.len 15),o 17 (.a8 (k 0))]
def r5:=[o 18 (.bin .lss 17 16)]
def r6:=[m 19 17,m 5 19]
def r7:=[m 20 4,m 21 5,m 22 0,o 23 (.mk 23 3 56 [(.bool false),.nil,.nil] 22 22),o 24 (.a4 none 1 20 21),n (.st 1 24 23)]
def r8:=[m 25 4,m 26 5,o 27 (.a4 none 1 25 26),o 28 (.ld false 1 27),o 29 (.len 28),o 30 (.a8 (k 0))]
def r9:=[o 31 (.bin .lss 30 29)]
def DQ:=[m 32 30,m 6 32]
def DW:=[m 33 4,m 34 5,o 35 (.a4 none 1 33 34),o 36 (.ld false 1 35),m 37 6,o 38 (.call 96 [(k 0)]),o 39 (.a4 none 3 36 37),n (.st 3 39 38)]
def q6:=[o 40 (.bin .add 30 (k 1)),m 30 40]
def EJ:=[m 41 4,m 42 5,o 43 (.a4 none 1 41 42),o 44 (.ld false 1 43),m 45 5,o 46 (.call 96 [(k 1)]),o 47 (.a4 none 3 44 45),n (.st 3 47 46)]
def v3:=[o 48 (.bin .add 17 (k 1)),m 17 48]
def v5:=[m 49 4,m 2 49,o 3 (.a8 (k 0))]
def l2:=(s (p r9) (s (i 31 .skip (x 2)) (s (b 3 (s (d DQ [31,32]) (e DW [6,33,34,35,36,37,38,39]))) (d q6 [40]))))
def l1:=(s (p r5) (s (i 18 .skip (x 0)) (s (b 1 (s (d r6 [18,19]) (s (d r7 [20,21,22,23,24]) (s (s (d r8 [25,26,27,28]) (b 2 (w l2))) (e EJ [5,29,30,31,41,42,43,44,45,46,47]))))) (d v3 [48]))))
def c:=(s (d r0 [2,3]) (s (s (d r1 [7,8,9,10,11]) (i 12 (s (d r2 [0,12]) .ret) .skip)) (s (d r3 [12,13,14]) (s (s (d r4 [15]) (b 0 (w l1))) (s (d v5 [0,4,16,17,18,49]) .ret)))))
end O6
def O6:AFn:=⟨1,O6.c,[.tmp 2,.tmp 3],false⟩
namespace J9
def r0:=[o 2 (.a8 (.c .nil)),o 3 (.a8 (.c .nil))]
def r1:=[m 14 0,o 15 (.len 14),o 16 (.mk 231016 1 24 [.nil] 15 15),m 17 0,o 18 (.len 17),o 19 (.mk 231019 3 56 [(.bool false),.nil,.nil] 18 18),m 4 16,m 5 19]
def r2:=[m 20 0,o 21 (.len 20),o 22 (.a8 (k 0))]
def r3:=[o 23 (.bin .lss 22 21)]
def r4:=[m 24 22,o 25 (.a4 none 1 20 22),o 26 (.ld false 1 25),m 6 24,m 7 26]
def r5:=[o 27 (.call 96 [(k 1)]),o 8 (.alloc 231008 [(.bool false),.nil,.nil]),n (.st 3 8 27)]
def r6:=[m 28 7,o 29 (.len 28),o 30 (.a8 (k 0))]
def r7:=[o 31 (.bin .lss 30 29)]
def r8:=[o 32 (.a4 none 3 28 30),o 33 (.ld true 3 32),o 10 (.alloc 231010 [(.bool false),.nil,.nil]),n (.st 3 10 33)]
def r9:=[o 34 (.ld true 3 8),o 35 (.ld true 3 10),o 36 (.call 99 [34,35]),o 11 (.alloc 231011 [(.bool false),.nil,.nil]),n (.st 3 11 36)]
def DQ:=[o 37 (.ld true 3 8),o 38 (.a7 11 2),o 39 (.ld false 1 38),o 40 (.build [(.bool false),.nil] [(1,1,39)]),o 41 (.c4 231041 1 [(.c (.int .u32 (1)))]),
 o 42 (.build [(.bool false),.nil,.nil] [(0,2,40),(2,1,41)]),o 43 (.call 99 [37,42]),n (.st 3 8 43)]
def DW:=[o 44 (.bin .add 30 (k 1)),m 30 44]
def q6:=[m 45 4,m 46 6,m 47 7,o 48 (.len 47),o 49 (.mk 231049 3 56 [(.bool false),.nil,.nil] 48 48),o 50 (.a4 none 1 45 46),n (.st 1 50 49)]
def EJ:=[m 51 7,o 52 (.len 51),o 53 (.a8 (k 0))]
def v3:=[o 54 (.bin .lss 53 52)]
def v5:=[m 55 53,o 56 (.a4 none 3 51 53),o 57 (.ld true 3 56),o 13 (.alloc 231013 [(.bool false),.nil,.nil]),m 12 55,n (.st 3 13 57)]
def x7:=[m 58 4,m 59 6,o 60 (.a4 none 1 58 59),o 61 (.ld false 1 60),m 62 12,o 63 (.ld true 3 13),o 64 (.ld true 3 8),o 65 (.call 99 [63,64]),
 o 66 (.a4 none 3 61 62),n (.st 3 66 65)]
def GQ:=[o 67 (.bin .add 53 (k 1)),m 53 67]
def x8:=[m 68 5,m 69 6,o 70 (.ld true 3 8),o 71 (.a4 none 3 68 69),n (.st 3 71 70)]
def r19:=[o 72 (.bin .add 22 (k 1)),m 22 72]
def bg:=[m 73 4,m 74 5,m 2 73,m 3 74]
def l2:=(s (p r7) (s (i 31 .skip (x 2)) (s (b 3 (s (d r8 [31,32,33]) (s (d r9 [10,34,35,36]) (d DQ [11,37,38,39,40,41,42,43])))) (d DW [44]))))
def l3:=(s (p v3) (s (i 54 .skip (x 4)) (s (b 5 (s (d v5 [54,55,56,57]) (e x7 [12,13,58,59,60,61,62,63,64,65,66]))) (d GQ [67]))))
def l1:=(s (p r3) (s (i 23 .skip (x 0)) (s (b 1 (s (d r4 [23,24,25,26]) (s (d r5 [27]) (s (s (p r6) (b 2 (w l2))) (s (d q6 [28,29,30,31,45,46,47,48,49,50]) (s (s (d EJ [7]) (b 4 (w l3))) (d x8 [6,8,51,52,53,54,68,69,70,71]))))))) (d r19 [72]))))
def c:=(s (d r0 [2,3]) (s (e r1 [14,15,16,17,18,19]) (s (s (d r2 [0]) (b 0 (w l1))) (s (d bg [4,5,20,21,22,23,73,74]) .ret))))
end J9
def J9:AFn:=⟨1,J9.c,[.tmp 2,.tmp 3],false⟩
namespace PF
def r0:=[o 7 (.box 900007 3)]
def r1:=[m 12 1,m 13 2,o 14 (.a4 none 3 12 13),q 15 [900008,900009] (.ld true 3 14),m 16 0,m 17 2,o 18 (.a4 none 3 16 17),
 q 19 [900008,900009,900008] (.ld true 3 18),o 8 (.alloc 900008 [(.bool false),.nil,.nil]),o 9 (.alloc 900009 [(.bool false),.nil,.nil]),
 n (.gu 900008 3 8 15),n (.st 3 9 19)]
def r2:=[m 20 2,m 10 20]
def r3:=[m 21 10,m 22 0,o 23 (.len 22),o 24 (.bin .lss 21 23)]
def r5:=[m 27 0,m 28 10,o 29 (.a4 none 3 27 28),q 30 [900011] (.ld true 3 29),q 31 [900011] (.ld true 3 8),
 q 32 [900011] (.call 99 [30,31]),m 33 1,m 34 10,o 35 (.a4 none 3 33 34),q 36 [900011] (.ld true 3 35),
 q 37 [900011] (.ld true 3 9),q 38 [900011] (.call 99 [36,37]),q 39 [900011] (.call 150 [32,38]),
 o 11 (.alloc 900011 [(.bool false),.nil,.nil]),n (.st 3 11 39)]
def r6:=[m 41 0,m 42 10,o 43 (.ld true 3 11),o 44 (.ld true 3 7),o 45 (.call 100 [43,44]),m 40 45,o 46 (.ext 40 0),o 47 (.ext 40 1),o 48 (.a4 none 3 41 42),
 n (.st 3 48 46)]
def r4:=[m 25 10,o 26 (.bin .add 25 (k 1)),m 10 26]
def l1:=(s (s (d r3 [21,22,23]) (i 24 .skip (x 0))) (s (b 1 (s (e r5 [24,27,28,29,30,31,32,33,34,35,36,37,38,39]) (d r6 [11,40,41,42,43,44,45,46,47,48]))) (d r4 [25,26])))
def c:=(s (d r0 [3]) (s (e r1 [12,13,14,15,16,17,18,19]) (s (d r2 [2,20]) (b 0 (w l1)))))
end PF
def PF:AFn:=⟨4,PF.c,[],false⟩
namespace N5
def r0:=[o 4 (.a8 (k 0)),o 5 (.alloc 233005 [(.bool false),.nil,.nil]),o 6 (.a8 (.c (.bool false)))]
def r1:=[o 7 (.a8 (k 0)),o 8 (.a8 (k 0)),o 9 (.a8 (.c (.bool false)))]
def r2:=[o 13 (.call 96 [(k 1)]),o 10 (.alloc 233010 [(.bool false),.nil,.nil]),n (.st 3 10 13)]
def r3:=[m 14 7,m 15 0,o 16 (.len 15),o 17 (.bin .lss 14 16)]
def r4:=[m 18 8,m 19 1,o 20 (.bin .lss 18 19)]
def r6:=[m 23 7,m 11 23]
def r7:=[m 24 11,m 25 0,o 26 (.len 25),o 27 (.bin .lss 24 26)]
def r9:=[m 30 0,m 31 11,o 32 (.a4 none 1 30 31),o 33 (.ld false 1 32),m 34 8,o 35 (.a4 none 3 33 34),o 36 (.ld true 3 35),o 37 (.call 97 [36]),
 o 38 (.bin .neq 37 (k 0))]
def DQ:=[m 39 11,m 40 7,o 41 (.bin .neq 39 40)]
def DW:=[m 42 0,m 43 11,m 44 0,m 45 7,m 46 0,m 47 7,o 48 (.a4 none 1 46 47),o 49 (.ld false 1 48),m 50 0,m 51 11,o 52 (.a4 none 1 50 51),
 o 53 (.ld false 1 52),o 54 (.a4 none 1 42 43),n (.st 1 54 49),o 55 (.a4 none 1 44 45),n (.st 1 55 53)]
def q6:=[m 56 9,o 57 (.un .not 56),m 9 57]
def r8:=[m 28 11,o 29 (.bin .add 28 (k 1)),m 11 29]
def r5:=[m 21 8,o 22 (.bin .add 21 (k 1)),m 8 22]
def EJ:=[m 58 8,m 59 1,o 60 (.bin .geq 58 59)]
def v3:=[m 61 7,o 62 (.bin .add 61 (k 1)),m 12 62]
def v5:=[m 63 12,m 64 0,o 65 (.len 64),o 66 (.bin .lss 63 65)]
def GQ:=[m 69 0,m 70 12,o 71 (.a4 none 1 69 70),o 72 (.ld false 1 71),m 73 0,m 74 7,o 75 (.a4 none 1 73 74),o 76 (.ld false 1 75),m 77 8,
 o 78 (.ld true 3 10),o 79 (.c8 900 [72,76,77,78])]
def x7:=[m 67 12,o 68 (.bin .add 67 (k 1)),m 12 68]
def x8:=[m 80 0,m 81 7,o 82 (.a4 none 1 80 81),o 83 (.ld false 1 82),m 84 8,o 85 (.a4 none 3 83 84),o 86 (.ld true 3 85),n (.st 3 10 86)]
def r19:=[m 87 7,o 88 (.bin .add 87 (k 1)),m 7 88]
def bg:=[m 89 8,o 90 (.bin .add 89 (k 1)),m 8 90]
def da:=[m 91 7,o 92 (.ld true 3 10),m 93 9,m 4 91,n (.st 3 5 92),m 6 93]
def l3:=(s (s (d r7 [24,25,26]) (i 27 .skip (x 4))) (s (b 5 (s (d r9 [27,30,31,32,33,34,35,36,37]) (i 38 (s (s (d DQ [38,39,40]) (i 41 (s (e DW [11,41,42,43,44,45,46,47,48,49,50,51,52,53,54,55]) (d q6 [56,57])) .skip)) (x 2)) .skip))) (d r8 [28,29,38])))
def l2:=(s (s (d r4 [17,18,19]) (i 20 .skip (x 2))) (s (b 3 (s (d r6 [20,23]) (b 4 (w l3)))) (d r5 [11,21,22,27])))
def l4:=(s (s (d v5 [63,64,65]) (i 66 .skip (x 6))) (s (b 7 (e GQ [66,69,70,71,72,73,74,75,76,77,78,79])) (d x7 [67,68])))
def l1:=(s (s (d r3 [14,15,16]) (i 17 .skip (x 0))) (b 1 (.scope (s .skip (s (b 2 (w l2)) (s (s (d EJ [11,20,41,58,59]) (i 60 (x 0) .skip)) (s (s (d v3 [60,61,62]) (b 6 (w l4))) (s (d x8 [12,66,80,81,82,83,84,85,86]) (s (d r19 [87,88]) (d bg [89,90]))))))))))
def c:=(s (d r0 [4,6]) (s (p r1) (s (d r2 [13]) (s (b 0 (w l1)) (s (e da [0,1,7,8,9,10,17,60,91,92,93]) .ret)))))
end N5
def N5:AFn:=⟨2,N5.c,[.tmp 4,.cell 5 true 3,.tmp 6],false⟩
namespace PB
def r0:=[o 5 (.box 5 2),o 6 (.a8 (.c .nil))]
def r1:=[m 11 0,o 12 (.len 11),o 13 (.mk 13 3 56 [(.bool false),.nil,.nil] 12 12),m 7 13]
def r2:=[m 14 0,o 15 (.len 14),o 16 (.bin .sub 15 (k 1)),m 8 16]
def r3:=[m 17 8,o 18 (.bin .geq 17 (k 0))]
def r5:=[m 21 0,m 22 8,o 23 (.a4 none 1 21 22),q 24 [9] (.ld false 1 23),m 25 1,o 26 (.a4 none 3 24 25),q 27 [9] (.ld true 3 26),
 q 28 [9] (.ld true 3 5),q 29 [9] (.call 99 [27,28]),o 9 (.alloc 9 [(.bool false),.nil,.nil]),n (.st 3 9 29)]
def r6:=[m 30 8,o 31 (.bin .add 30 (k 1)),m 10 31]
def r7:=[m 32 10,m 33 0,o 34 (.len 33),o 35 (.bin .lss 32 34)]
def r9:=[o 38 (.ld true 3 9),m 39 0,m 40 8,o 41 (.a4 none 1 39 40),o 42 (.ld false 1 41),m 43 10,o 44 (.a4 none 3 42 43),o 45 (.ld true 3 44),m 46 7,
 m 47 10,o 48 (.a4 none 3 46 47),o 49 (.ld true 3 48),o 50 (.call 99 [45,49]),o 51 (.call 150 [38,50]),n (.st 3 9 51)]
def r8:=[m 36 10,o 37 (.bin .add 36 (k 1)),m 10 37]
def DQ:=[m 53 7,m 54 8,o 55 (.ld true 3 9),m 56 0,m 57 8,o 58 (.a4 none 1 56 57),o 59 (.ld false 1 58),m 60 8,o 61 (.a4 none 3 59 60),o 62 (.ld true 3 61),
 o 63 (.call 100 [55,62]),m 52 63,o 64 (.ext 52 0),o 65 (.ext 52 1),o 66 (.a4 none 3 53 54),n (.st 3 66 64)]
def r4:=[m 19 8,o 20 (.bin .sub 19 (k 1)),m 8 20]
def DW:=[m 67 7,m 6 67]
def l2:=(s (s (d r7 [32,33,34]) (i 35 .skip (x 2))) (s (b 3 (e r9 [35,38,39,40,41,42,43,44,45,46,47,48,49,50,51])) (d r8 [36,37])))
def l1:=(s (s (d r3 [17]) (i 18 .skip (x 0))) (s (b 1 (s (e r5 [18,21,22,23,24,25,26,27,28,29]) (s (s (d r6 [30,31]) (b 2 (w l2))) (e DQ [9,10,35,52,53,54,55,56,57,58,59,60,61,62,63,64,65,66])))) (d r4 [19,20])))
def c:=(s (d r0 [2,6]) (s (d r1 [11,12,13]) (s (s (d r2 [14,15,16]) (b 0 (w l1))) (s (d DW [0,1,5,7,8,18,67]) .ret))))
end PB
def PB:AFn:=⟨3,PB.c,[.tmp 6],false⟩
namespace PE
def r0:=[o 4 (.a8 (.c .nil)),o 5 (.a8 (k 0))]
def r1:=[m 19 0,o 20 (.len 19),m 6 20]
def r2:=[m 21 6,o 22 (.mk 22 1 24 [.nil] 21 21),m 7 22]
def r3:=[m 23 7,o 24 (.len 23),o 25 (.a8 (k 0))]
def r4:=[o 26 (.bin .lss 25 24)]
def r5:=[m 27 25,m 8 27]
def r6:=[m 28 7,m 29 8,m 30 0,m 31 8,o 32 (.a4 none 1 30 31),o 33 (.ld false 1 32),m 34 1,m 35 8,o 36 (.a4 none 1 34 35),o 37 (.ld false 1 36),
 o 38 (.c4 38 1 [33,37]),o 39 (.call 228 [38]),o 40 (.a4 none 1 28 29),n (.st 1 40 39)]
def r7:=[o 41 (.bin .add 25 (k 1)),m 25 41]
def r8:=[m 43 7,o 44 (.c8 231 [43]),m 42 44,o 45 (.ext 42 0),o 46 (.ext 42 1),m 9 45,m 10 46]
def r9:=[m 48 9,m 49 6,o 50 (.c8 233 [48,49]),m 47 50,o 51 (.ext 47 0),o 52 (.ext 47 1),o 53 (.ext 47 2),o 12 (.alloc 12 [(.bool false),.nil,.nil]),
 m 11 51,n (.st 3 12 52),m 13 53]
def DQ:=[m 54 11,m 55 6,o 56 (.bin .lss 54 55)]
def DW:=[o 4 (.a8 (.c .nil)),o 5 (.a8 (k 11))]
def q6:=[m 57 6,o 58 (.mk 58 1 24 [.nil] 57 57),m 14 58]
def EJ:=[m 59 14,o 60 (.len 59),o 61 (.a8 (k 0))]
def v3:=[o 62 (.bin .lss 61 60)]
def v5:=[m 63 61,m 15 63]
def x7:=[m 64 14,m 65 15,m 66 1,m 67 15,o 68 (.a4 none 1 66 67),o 69 (.ld false 1 68),o 70 (.len 69),o 71 (.mk 71 3 56 [(.bool false),.nil,.nil] 70 70),
 o 72 (.a4 none 1 64 65),n (.st 1 72 71)]
def GQ:=[o 73 (.bin .add 61 (k 1)),m 61 73]
def x8:=[m 74 1,o 75 (.a4 none 1 74 (k 0)),o 76 (.ld false 1 75),o 77 (.len 76),o 78 (.a8 (k 0))]
def r19:=[o 79 (.bin .lss 78 77)]
def bg:=[m 80 78,m 16 80]
def da:=[m 81 9,m 82 6,m 83 16,o 84 (.bin .add 82 83),o 85 (.ld true 3 12),o 86 (.call 234 [81,84,85]),o 87 (.len 86),o 88 (.a8 (k 0))]
def de:=[o 89 (.bin .lss 88 87)]
def fu:=[m 90 88,o 91 (.a4 none 3 86 88),o 92 (.ld true 3 91),o 18 (.alloc 18 [(.bool false),.nil,.nil]),m 17 90,n (.st 3 18 92)]
def LP:=[m 94 14,m 95 17,o 96 (.a4 none 1 94 95),o 97 (.ld false 1 96),m 98 16,o 99 (.ld true 3 18),o 100 (.ld true 3 12),o 101 (.call 100 [99,100]),m 93 101,
 o 102 (.ext 93 0),o 103 (.ext 93 1),o 104 (.a4 none 3 97 98),n (.st 3 104 102)]
def QJ:=[o 105 (.bin .add 88 (k 1)),m 88 105]
def VH:=[o 106 (.bin .add 78 (k 1)),m 78 106]
def VI:=[m 107 14,m 4 107,o 5 (.a8 (k 0))]
def l1:=(s (p r4) (s (i 26 .skip (x 0)) (s (b 1 (s (d r5 [26,27]) (e r6 [8,28,29,30,31,32,33,34,35,36,37,38,39,40]))) (d r7 [41]))))
def l2:=(s (p v3) (s (i 62 .skip (x 2)) (s (b 3 (s (d v5 [62,63]) (d x7 [15,64,65,66,67,68,69,70,71,72]))) (d GQ [73]))))
def l4:=(s (p de) (s (i 89 .skip (x 6)) (s (b 7 (s (d fu [89,90,91,92]) (e LP [17,18,93,94,95,96,97,98,99,100,101,102,103,104]))) (d QJ [105]))))
def l3:=(s (p r19) (s (i 79 .skip (x 4)) (s (b 5 (s (d bg [79,80]) (s (d da [81,82,83,84,85]) (b 6 (w l4))))) (d VH [16,86,87,88,89,106]))))
def c:=(s (d r0 [4,5]) (s (d r1 [19,20]) (s (d r2 [21,22]) (s (s (d r3 [23]) (b 0 (w l1))) (s (d r8 [0,7,10,24,25,26,42,43,44,45,46]) (s (d r9 [13,47,48,49,50,51,52,53]) (s (s (d DQ [11,54,55]) (i 56 (s (d DW [1,6,9,12,56]) .ret) .skip)) (s (d q6 [56,57,58]) (s (s (d EJ [59]) (b 2 (w l2))) (s (s (d x8 [1,60,61,62,74,75,76]) (b 4 (w l3))) (s (d VI [6,9,12,14,77,78,79,107]) .ret)))))))))))
end PE
def PE:AFn:=⟨2,PE.c,[.tmp 4,.tmp 5],false⟩
namespace O7
def r0:=[o 2 (.a8 (.c .nil)),o 3 (.a8 (k 0))]
def r1:=[m 6 0,o 7 (.call 229 [6]),o 8 (.un .not 7)]
def r2:=[o 2 (.a8 (.c .nil)),o 3 (.a8 (k 2))]
def r3:=[m 9 0,o 10 (.a4 none 1 9 (k 0)),o 11 (.ld false 1 10),o 12 (.len 11),m 13 0,o 14 (.len 13),o 15 (.bin .neq 12 14)]
def r4:=[o 2 (.a8 (.c .nil)),o 3 (.a8 (k 1))]
def r5:=[m 17 0,o 18 (.len 17),o 19 (.call 230 [18]),m 16 19,o 20 (.ext 16 0),o 21 (.ext 16 1),m 4 20,m 5 21]
def r6:=[m 22 0,m 23 4,o 24 (.call 235 [22,23]),o 25 (.ext 24 0),o 26 (.ext 24 1),m 2 25,m 3 26]
def c:=(s (d r0 [2,3]) (s (s (d r1 [6,7]) (i 8 (s (d r2 [0,8]) .ret) .skip)) (s (s (d r3 [8,9,10,11,12,13,14]) (i 15 (s (d r4 [0,15]) .ret) .skip)) (s (d r5 [5,15,16,17,18,19,20,21]) (s (d r6 [0,4,22,23,24,25,26]) .ret)))))
end O7
def O7:AFn:=⟨1,O7.c,[.tmp 2,.tmp 3],false⟩
structure MatGLib (L:Lib):Prop extends o5 L,StGLib L where
 SW:L 227=some F.SW
 SV:L 228=some F.SV
 O9:L 229=some F.O9
 O6:L 230=some F.O6
 J9:L 231=some F.J9
 PF:L 900=some F.PF
 N5:L 233=some F.N5
 PB:L 234=some F.PB
 PE:L 235=some F.PE
 O7:L 238=some F.O7
end Go.Eng.F

namespace Go.Eng.F
open C
namespace PG
def r0:=[o 2 (.a8 (.c .nil))]
def r1:=[m 6 0,o 7 (.a4 none 1 6 (k 0)),o 8 (.ld false 1 7),o 9 (.len 8),o 10 (.mk 10 1 24 [.nil] 9 9),m 3 10]
def r2:=[m 11 3,o 12 (.len 11),o 13 (.a8 (k 0))]
def r3:=[o 14 (.bin .lss 13 12)]
def r4:=[m 15 13,m 4 15]
def r5:=[m 16 0,o 17 (.len 16),o 18 (.a8 (k 0))]
def r6:=[o 19 (.bin .lss 18 17)]
def r7:=[m 20 18,m 5 20]
def r8:=[m 21 3,m 22 4,m 23 3,m 24 4,o 25 (.a4 none 1 23 24),q 26 [35] (.ld false 1 25),m 27 0,m 28 5,o 29 (.a4 none 1 27 28),
 o 30 (.ld false 1 29),m 31 4,o 32 (.a4 none 3 30 31),o 33 (.ld true 3 32),o 34 (.call 95 [33]),o 35 (.c4 35 3 [34]),o 36 (.app 36 3 56 26 35),
 o 37 (.a4 none 1 21 22),n (.st 1 37 36)]
def r9:=[o 38 (.bin .add 18 (k 1)),m 18 38]
def DQ:=[o 39 (.bin .add 13 (k 1)),m 13 39]
def DW:=[m 40 3,m 2 40]
def l2:=(s (p r6) (s (i 19 .skip (x 2)) (s (b 3 (s (d r7 [19,20]) (e r8 [5,21,22,23,24,25,26,27,28,29,30,31,32,33,34,35,36,37]))) (d r9 [38]))))
def l1:=(s (p r3) (s (i 14 .skip (x 0)) (s (b 1 (s (d r4 [14,15]) (s (d r5 [16]) (b 2 (w l2))))) (d DQ [4,17,18,19,39]))))
def c:=(s (d r0 [2]) (s (d r1 [6,7,8,9,10]) (s (s (d r2 [11]) (b 0 (w l1))) (s (d DW [0,3,12,13,14,40]) .ret))))
end PG
def PG:AFn:=⟨1,PG.c,[.tmp 2],false⟩
namespace O8
def r0:=[o 4 (.a8 (.c .nil)),o 5 (.a8 (k 0))]
def r1:=[m 17 0,o 18 (.call 229 [17]),o 19 (.un .not 18),m 20 19,g 21 20 false (.a8 1),g 22 20 false (.call 229 [21]),g 23 20 false (.un .not 22),
 o 24 (.pick 20 (.c (.bool true)) 23)]
def r2:=[o 4 (.a8 (.c .nil)),o 5 (.a8 (k 2))]
def r3:=[m 25 0,o 26 (.a4 none 1 25 (k 0)),o 27 (.ld false 1 26),o 28 (.len 27),m 29 1,o 30 (.len 29),o 31 (.bin .neq 28 30)]
def r4:=[o 4 (.a8 (.c .nil)),o 5 (.a8 (k 1))]
def r5:=[m 33 0,o 34 (.c8 231 [33]),m 32 34,o 35 (.ext 32 0),o 36 (.ext 32 1),m 6 35,m 7 36]
def r6:=[m 38 1,o 39 (.call 246 [38]),o 40 (.c8 231 [39]),m 37 40,o 41 (.ext 37 0),o 42 (.ext 37 1),m 8 41,m 9 42]
def r7:=[m 43 6,o 44 (.len 43),o 45 (.mk 45 1 24 [.nil] 44 44),m 10 45]
def r8:=[m 46 6,o 47 (.len 46),o 48 (.a8 (k 0))]
def r9:=[o 49 (.bin .lss 48 47)]
def DQ:=[m 50 48,o 51 (.a4 none 1 46 48),o 52 (.ld false 1 51),m 11 50,m 12 52]
def DW:=[m 53 8,o 54 (.len 53),o 55 (.a8 (k 0))]
def q6:=[o 56 (.bin .lss 55 54)]
def EJ:=[m 57 55,o 58 (.a4 none 1 53 55),o 59 (.ld false 1 58),m 13 57,m 14 59]
def v3:=[o 60 (.call 96 [(k 0)]),o 15 (.alloc 15 [(.bool false),.nil,.nil]),n (.st 3 15 60)]
def v5:=[m 61 12,o 62 (.len 61),o 63 (.a8 (k 0))]
def x7:=[o 64 (.bin .lss 63 62)]
def GQ:=[m 65 63,m 16 65]
def x8:=[o 66 (.ld true 3 15),m 67 12,m 68 16,o 69 (.a4 none 3 67 68),o 70 (.ld true 3 69),m 71 14,m 72 16,o 73 (.a4 none 3 71 72),o 74 (.ld true 3 73),
 o 75 (.call 99 [70,74]),o 76 (.call 98 [66,75]),n (.st 3 15 76)]
def r19:=[o 77 (.bin .add 63 (k 1)),m 63 77]
def bg:=[o 79 (.ld true 3 15),m 80 7,m 81 11,o 82 (.a4 none 3 80 81),o 83 (.ld true 3 82),m 84 9,m 85 13,o 86 (.a4 none 3 84 85),o 87 (.ld true 3 86),
 o 88 (.call 99 [83,87]),o 89 (.call 100 [79,88]),m 78 89,o 90 (.ext 78 0),o 91 (.ext 78 1),n (.st 3 15 90)]
def da:=[m 92 10,m 93 11,m 94 10,m 95 11,o 96 (.a4 none 1 94 95),q 97 [99] (.ld false 1 96),o 98 (.ld true 3 15),o 99 (.c4 99 3 [98]),
 o 100 (.app 100 3 56 97 99),o 101 (.a4 none 1 92 93),n (.st 1 101 100)]
def de:=[o 102 (.bin .add 55 (k 1)),m 55 102]
def fu:=[o 103 (.bin .add 48 (k 1)),m 48 103]
def LP:=[m 104 10,m 4 104,o 5 (.a8 (k 0))]
def l3:=(s (p x7) (s (i 64 .skip (x 4)) (s (b 5 (s (d GQ [64,65]) (e x8 [16,66,67,68,69,70,71,72,73,74,75,76]))) (d r19 [77]))))
def l2:=(s (p q6) (s (i 56 .skip (x 2)) (s (b 3 (s (d EJ [56,57,58,59]) (s (d v3 [60]) (s (s (d v5 [61]) (b 4 (w l3))) (s (e bg [13,14,62,63,64,78,79,80,81,82,83,84,85,86,87,88,89,90,91]) (e da [15,92,93,94,95,96,97,98,99,100,101])))))) (d de [102]))))
def l1:=(s (p r9) (s (i 49 .skip (x 0)) (s (b 1 (s (d DQ [49,50,51,52]) (s (p DW) (b 2 (w l2))))) (d fu [11,12,53,54,55,56,103]))))
def c:=(s (d r0 [4,5]) (s (s (d r1 [17,18,19,20,21,22,23]) (i 24 (s (d r2 [0,1,24]) .ret) .skip)) (s (s (d r3 [24,25,26,27,28,29,30]) (i 31 (s (d r4 [0,1,31]) .ret) .skip)) (s (d r5 [0,31,32,33,34,35,36]) (s (d r6 [1,37,38,39,40,41,42]) (s (d r7 [43,44,45]) (s (s (d r8 [6]) (b 0 (w l1))) (s (d LP [7,8,9,10,46,47,48,49,104]) .ret))))))))
end O8
def O8:AFn:=⟨2,O8.c,[.tmp 4,.tmp 5],false⟩
structure MatHLib (L:Lib):Prop extends MatGLib L where
 PG:L 246=some F.PG
 O8:L 248=some F.O8
end Go.Eng.F
