/-
  Functions of the program, as the abstract machine reads them (group RefG). Written by a program (gen.py) off the model's own reading of the translation; the seat's check ties them to it.
-/
import Derived.Test.YtfnglkabkfmjcaaGreatB1
import Derived.Test.YtfnglkabkfmjcaaGreatB3
set_option linter.unusedSimpArgs false
set_option linter.unusedVariables false
set_option linter.unnecessarySimpa false
namespace Go.e9.F
open C
namespace IO
def r0:=[o 2 (.c6 (.c .nil))]
def r1:=[m 4 0,o 5 (.len 4),m 3 5]
def r2:=[m 6 3,o 7 (.bin .gtr 6 (k 0)),m 8 7,g 9 8 true (.c6 0),g 10 8 true (.c6 3),g 11 8 true (.bin .sub 10 (k 1)),g 12 8 true (.b9 none 1 9 11),
 g 13 8 true (.ld false 1 12),g 14 8 true (.bin .eql 13 (.c (.int .u32 (0)))),o 15 (.pick 8 14 (.c (.bool false)))]
def r3:=[m 16 3,o 17 (.bin .sub 16 (k 1)),m 3 17]
def r4:=[m 18 0,m 19 3,o 20 (.ke 1 18 none (some 19)),o 21 (.app 101021 1 4 (.c .nil) 20),m 2 21]
def l1:=(s (s (d r2 [6,7,8,9,10,11,12,13,14]) (i 15 .skip (x 0))) (b 1 (d r3 [15,16,17])))
def c:=(s (d r0 [2]) (s (d r1 [4,5]) (s (b 0 (w l1)) (s (d r4 [0,3,15,18,19,20,21]) .ret))))
end IO
def IO:AFn:=⟨1,IO.c,[.tmp 2],false⟩
namespace ZY
def r0:=[o 4 (.c6 (k 0))]
def r1:=[m 6 0,o 7 (.call 101 [6]),m 8 1,o 9 (.call 101 [8]),m 0 7,m 1 9]
def r2:=[m 10 0,o 11 (.len 10),m 12 1,o 13 (.len 12),o 14 (.bin .neq 11 13)]
def r3:=[m 15 0,o 16 (.len 15),m 17 1,o 18 (.len 17),o 19 (.bin .lss 16 18)]
def r4:=[o 4 (.c6 (k (-1)))]
def r5:=[o 4 (.c6 (k 1))]
def r6:=[m 20 0,o 21 (.len 20),o 22 (.bin .sub 21 (k 1)),m 5 22]
def r7:=[m 23 5,o 24 (.bin .geq 23 (k 0))]
def r9:=[m 27 0,m 28 5,o 29 (.b9 none 1 27 28),o 30 (.ld false 1 29),m 31 1,m 32 5,o 33 (.b9 none 1 31 32),o 34 (.ld false 1 33),o 35 (.bin .lss 30 34)]
def BZ:=[o 4 (.c6 (k (-1)))]
def B8:=[m 36 0,m 37 5,o 38 (.b9 none 1 36 37),o 39 (.ld false 1 38),m 40 1,m 41 5,o 42 (.b9 none 1 40 41),o 43 (.ld false 1 42),o 44 (.bin .gtr 39 43)]
def ct:=[o 4 (.c6 (k 1))]
def r8:=[m 25 5,o 26 (.bin .sub 25 (k 1)),m 5 26]
def C3:=[o 4 (.c6 (k 0))]
def l1:=(s (s (d r7 [23]) (i 24 .skip (x 0))) (s (b 1 (s (s (e r9 [24,27,28,29,30,31,32,33,34]) (i 35 (s (d BZ [0,1,5,35]) .ret) .skip)) (s (e B8 [35,36,37,38,39,40,41,42,43]) (i 44 (s (d ct [0,1,5,44]) .ret) .skip)))) (d r8 [25,26,44])))
def c:=(s (d r0 [4]) (s (d r1 [6,7,8,9]) (s (s (d r2 [10,11,12,13]) (i 14 (s (s (d r3 [0,1,14,15,16,17,18]) (i 19 (s (d r4 [19]) .ret) .skip)) (s (d r5 [19]) .ret)) .skip)) (s (s (d r6 [14,20,21,22]) (b 0 (w l1))) (s (d C3 [0,1,5,24]) .ret)))))
end ZY
def ZY:AFn:=⟨2,ZY.c,[.tmp 4],false⟩
namespace ZW
def r0:=[o 4 (.c6 (.c .nil))]
def r1:=[o 5 (.ff 5 1)]
def r2:=[o 6 (.c6 (.c (.int .u64 (0))))]
def r3:=[o 7 (.c6 (k 0))]
def r4:=[m 8 7,m 9 0,o 10 (.len 9),o 11 (.bin .lss 8 10),m 12 11,g 13 12 false (.c6 7),g 14 12 false (.c6 1),g 15 12 false (.len 14),
 g 16 12 false (.bin .lss 13 15),o 17 (.pick 12 (.c (.bool true)) 16)]
def r6:=[m 20 7,m 21 0,o 22 (.len 21),o 23 (.bin .lss 20 22)]
def r7:=[m 24 6,m 25 0,m 26 7,o 27 (.b9 none 1 25 26),o 28 (.ld false 1 27),o 29 (.conv .u64 28),o 30 (.bin .add 24 29),m 6 30]
def r8:=[m 31 7,m 32 1,o 33 (.len 32),o 34 (.bin .lss 31 33)]
def r9:=[m 35 6,m 36 1,m 37 7,o 38 (.b9 none 1 36 37),o 39 (.ld false 1 38),o 40 (.conv .u64 39),o 41 (.bin .add 35 40),m 6 41]
def BZ:=[m 42 5,m 43 6,o 44 (.conv .u32 43),o 45 (.m4 45 1 [44]),o 46 (.app 46 1 4 42 45),m 5 46]
def B8:=[m 47 6,o 48 (.bin .shr 47 (.c (.int .u64 (32)))),m 6 48]
def r5:=[m 18 7,o 19 (.bin .add 18 (k 1)),m 7 19]
def ct:=[m 49 5,m 50 6,o 51 (.conv .u32 50),o 52 (.m4 52 1 [51]),o 53 (.app 53 1 4 49 52),o 54 (.call 101 [53]),m 4 54]
def l1:=(s (s (d r4 [8,9,10,11,12,13,14,15,16]) (i 17 .skip (x 0))) (s (b 1 (s (s (d r6 [17,20,21,22]) (i 23 (d r7 [23,24,25,26,27,28,29,30]) .skip)) (s (s (d r8 [23,31,32,33]) (i 34 (d r9 [34,35,36,37,38,39,40,41]) .skip)) (s (d BZ [34,42,43,44,45,46]) (d B8 [47,48]))))) (d r5 [18,19])))
def c:=(s (d r0 [4]) (s (p r1) (s (p r2) (s (s (p r3) (b 0 (w l1))) (s (d ct [0,1,5,6,7,17,49,50,51,52,53,54]) .ret)))))
end ZW
def ZW:AFn:=⟨2,ZW.c,[.tmp 4],false⟩
namespace OT
def r0:=[o 4 (.c6 (.c .nil))]
def r1:=[m 10 0,m 11 1,o 12 (.call 102 [10,11]),o 13 (.bin .lss 12 (k 0))]
def r2:=[o 4 (.c6 (.c .nil))]
def r3:=[m 14 1,o 15 (.call 101 [14]),m 1 15]
def r4:=[m 16 0,o 17 (.m7 101 [16]),m 5 17]
def r5:=[o 6 (.c6 (.c (.int .u64 (0))))]
def r6:=[o 7 (.c6 (k 0))]
def r7:=[m 18 7,m 19 5,o 20 (.len 19),o 21 (.bin .lss 18 20)]
def r9:=[m 24 6,m 8 24]
def BZ:=[m 25 7,m 26 1,o 27 (.len 26),o 28 (.bin .lss 25 27)]
def B8:=[m 29 8,m 30 1,m 31 7,o 32 (.b9 none 1 30 31),o 33 (.ld false 1 32),o 34 (.conv .u64 33),o 35 (.bin .add 29 34),m 8 35]
def ct:=[m 36 5,m 37 7,o 38 (.b9 none 1 36 37),o 39 (.ld false 1 38),o 40 (.conv .u64 39),m 9 40]
def C3:=[o 6 (.c6 (.c (.int .u64 (0))))]
def ft:=[m 41 9,m 42 8,o 43 (.bin .lss 41 42)]
def fu:=[m 44 9,o 45 (.bin .add 44 (.c (.int .u64 (4294967296)))),m 9 45]
def iv:=[o 6 (.c6 (.c (.int .u64 (1))))]
def EQ:=[m 46 5,m 47 7,m 48 9,m 49 8,o 50 (.bin .sub 48 49),o 51 (.conv .u32 50),o 52 (.b9 none 1 46 47),n (.st 1 52 51)]
def r8:=[m 22 7,o 23 (.bin .add 22 (k 1)),m 7 23]
def jf:=[m 53 5,o 54 (.call 101 [53]),m 4 54]
def l1:=(s (s (d r7 [18,19,20]) (i 21 .skip (x 0))) (s (b 1 (s (d r9 [6,21,24]) (s (s (d BZ [25,26,27]) (i 28 (d B8 [28,29,30,31,32,33,34,35]) .skip)) (s (d ct [28,36,37,38,39,40]) (s (p C3) (s (s (d ft [41,42]) (i 43 (s (d fu [6,43,44,45]) (p iv)) .skip)) (d EQ [8,9,43,46,47,48,49,50,51,52]))))))) (d r8 [22,23])))
def c:=(s (d r0 [4]) (s (s (d r1 [10,11,12]) (i 13 (s (d r2 [0,1,13]) .ret) .skip)) (s (d r3 [13,14,15]) (s (d r4 [0,16,17]) (s (p r5) (s (s (p r6) (b 0 (w l1))) (s (d jf [1,5,6,7,21,53,54]) .ret)))))))
end OT
def OT:AFn:=⟨2,OT.c,[.tmp 4],false⟩
namespace Z0
def r0:=[o 4 (.c6 (.c .nil))]
def r1:=[m 9 0,o 10 (.len 9),m 11 1,o 12 (.len 11),o 13 (.bin .add 10 12),o 14 (.bin .add 13 (k 1)),o 15 (.mk 15 1 4 [(.int .u32 (0))] 14 14),m 5 15]
def r2:=[o 6 (.c6 (k 0))]
def r3:=[m 16 6,m 17 0,o 18 (.len 17),o 19 (.bin .lss 16 18)]
def r5:=[o 7 (.c6 (.c (.int .u64 (0))))]
def r6:=[o 8 (.c6 (k 0))]
def r7:=[m 22 8,m 23 1,o 24 (.len 23),o 25 (.bin .lss 22 24)]
def r9:=[m 28 7,m 29 0,m 30 6,o 31 (.b9 none 1 29 30),o 32 (.ld false 1 31),o 33 (.conv .u64 32),m 34 1,m 35 8,o 36 (.b9 none 1 34 35),
 o 37 (.ld false 1 36),o 38 (.conv .u64 37),o 39 (.bin .mul 33 38),m 40 5,m 41 6,m 42 8,o 43 (.bin .add 41 42),o 44 (.b9 none 1 40 43),
 o 45 (.ld false 1 44),o 46 (.conv .u64 45),o 47 (.bin .add 39 46),o 48 (.bin .add 28 47),m 7 48]
def BZ:=[m 49 5,m 50 6,m 51 8,o 52 (.bin .add 50 51),m 53 7,o 54 (.conv .u32 53),o 55 (.b9 none 1 49 52),n (.st 1 55 54)]
def B8:=[m 56 7,o 57 (.bin .shr 56 (.c (.int .u64 (32)))),m 7 57]
def r8:=[m 26 8,o 27 (.bin .add 26 (k 1)),m 8 27]
def ct:=[m 58 5,m 59 6,m 60 1,o 61 (.len 60),o 62 (.bin .add 59 61),m 63 7,o 64 (.conv .u32 63),o 65 (.b9 none 1 58 62),n (.st 1 65 64)]
def r4:=[m 20 6,o 21 (.bin .add 20 (k 1)),m 6 21]
def C3:=[m 66 5,o 67 (.call 101 [66]),m 4 67]
def l2:=(s (s (d r7 [22,23,24]) (i 25 .skip (x 2))) (s (b 3 (s (e r9 [25,28,29,30,31,32,33,34,35,36,37,38,39,40,41,42,43,44,45,46,47,48]) (s (d BZ [49,50,51,52,53,54,55]) (d B8 [56,57])))) (d r8 [26,27])))
def l1:=(s (s (d r3 [16,17,18]) (i 19 .skip (x 0))) (s (b 1 (s (d r5 [19]) (s (s (p r6) (b 2 (w l2))) (d ct [7,8,25,58,59,60,61,62,63,64,65])))) (d r4 [20,21])))
def c:=(s (d r0 [4]) (s (d r1 [9,10,11,12,13,14,15]) (s (s (p r2) (b 0 (w l1))) (s (d C3 [0,1,5,6,19,66,67]) .ret))))
end Z0
def Z0:AFn:=⟨2,Z0.c,[.tmp 4],false⟩
namespace ZX
def r0:=[o 2 (.c6 (k 0))]
def r1:=[m 5 0,o 6 (.call 101 [5]),m 0 6]
def r2:=[m 7 0,o 8 (.len 7),o 9 (.bin .eql 8 (k 0))]
def r3:=[o 2 (.c6 (k 0))]
def r4:=[m 10 0,o 11 (.len 10),o 12 (.bin .sub 11 (k 1)),o 13 (.bin .mul (k 32) 12),m 3 13]
def r5:=[m 14 0,m 15 0,o 16 (.len 15),o 17 (.bin .sub 16 (k 1)),o 18 (.b9 none 1 14 17),o 19 (.ld false 1 18),m 4 19]
def r6:=[m 20 4,o 21 (.bin .gtr 20 (.c (.int .u32 (0))))]
def r8:=[m 24 3,o 25 (.bin .add 24 (k 1)),m 3 25]
def r7:=[m 22 4,o 23 (.bin .shr 22 (.c (.int .u64 (1)))),m 4 23]
def r9:=[m 26 3,m 2 26]
def l1:=(s (s (d r6 [20]) (i 21 .skip (x 0))) (s (b 1 (d r8 [21,24,25])) (d r7 [22,23])))
def c:=(s (d r0 [2]) (s (d r1 [5,6]) (s (s (d r2 [7,8]) (i 9 (s (d r3 [0,9]) .ret) .skip)) (s (d r4 [9,10,11,12,13]) (s (s (d r5 [0,14,15,16,17,18,19]) (b 0 (w l1))) (s (d r9 [3,4,21,26]) .ret))))))
end ZX
def ZX:AFn:=⟨1,ZX.c,[.tmp 2],false⟩
namespace KR
def r0:=[o 4 (.c6 (.c .nil))]
def r1:=[m 11 0,o 12 (.call 101 [11]),m 0 12]
def r2:=[m 13 1,o 14 (.bin .gtr 13 (k 65536)),m 15 14,g 16 15 false (.c6 0),g 17 15 false (.len 16),g 18 15 false (.bin .eql 17 (k 0)),
 o 19 (.pick 15 (.c (.bool true)) 18)]
def r3:=[o 4 (.c6 (.c .nil))]
def r4:=[m 20 1,o 21 (.bin .lss 20 (k 0))]
def r5:=[m 22 1,m 23 0,o 24 (.len 23),o 25 (.bin .mul (k (-32)) 24),o 26 (.bin .lss 22 25)]
def r6:=[o 4 (.c6 (.c .nil))]
def r7:=[m 27 1,o 28 (.un .neg 27),m 1 28]
def r8:=[o 5 (.ff 107005 1)]
def r9:=[m 29 1,o 30 (.bin .quo 29 (k 32)),m 6 30]
def BZ:=[m 31 6,m 32 0,o 33 (.len 32),o 34 (.bin .lss 31 33)]
def ct:=[m 37 0,m 38 6,o 39 (.b9 none 1 37 38),o 40 (.ld false 1 39),o 41 (.conv .u64 40),m 7 41]
def C3:=[m 42 6,o 43 (.bin .add 42 (k 1)),m 44 0,o 45 (.len 44),o 46 (.bin .lss 43 45)]
def ft:=[m 47 7,m 48 0,m 49 6,o 50 (.bin .add 49 (k 1)),o 51 (.b9 none 1 48 50),o 52 (.ld false 1 51),o 53 (.conv .u64 52),
 o 54 (.bin .shl 53 (.c (.int .u64 (32)))),o 55 (.bin .or 47 54),m 7 55]
def fu:=[m 56 5,m 57 7,m 58 1,o 59 (.bin .rem 58 (k 32)),o 60 (.conv .u64 59),o 61 (.bin .shr 57 60),o 62 (.conv .u32 61),o 63 (.m4 107063 1 [62]),
 o 64 (.app 107064 1 4 56 63),m 5 64]
def B8:=[m 35 6,o 36 (.bin .add 35 (k 1)),m 6 36]
def iv:=[m 65 5,o 66 (.call 101 [65]),m 4 66]
def EQ:=[m 67 1,o 68 (.bin .quo 67 (k 32)),o 69 (.mk 107069 1 4 [(.int .u32 (0))] 68 68),m 8 69]
def jf:=[o 9 (.c6 (.c (.int .u64 (0))))]
def ko:=[o 10 (.c6 (k 0))]
def mf:=[m 70 10,m 71 0,o 72 (.len 71),o 73 (.bin .lss 70 72)]
def qh:=[m 76 9,m 77 0,m 78 10,o 79 (.b9 none 1 77 78),o 80 (.ld false 1 79),o 81 (.conv .u64 80),m 82 1,o 83 (.bin .rem 82 (k 32)),o 84 (.conv .u64 83),
 o 85 (.bin .shl 81 84),o 86 (.bin .or 76 85),m 9 86]
def tk:=[m 87 8,m 88 9,o 89 (.conv .u32 88),o 90 (.m4 107090 1 [89]),o 91 (.app 107091 1 4 87 90),m 8 91]
def QH:=[m 92 9,o 93 (.bin .shr 92 (.c (.int .u64 (32)))),m 9 93]
def oy:=[m 74 10,o 75 (.bin .add 74 (k 1)),m 10 75]
def dJ:=[m 94 8,m 95 9,o 96 (.conv .u32 95),o 97 (.m4 107097 1 [96]),o 98 (.app 107098 1 4 94 97),o 99 (.m7 101 [98]),m 4 99]
def l1:=(s (s (d BZ [31,32,33]) (i 34 .skip (x 0))) (s (b 1 (s (d ct [34,37,38,39,40,41]) (s (s (d C3 [42,43,44,45]) (i 46 (d ft [46,47,48,49,50,51,52,53,54,55]) .skip)) (d fu [7,46,56,57,58,59,60,61,62,63,64])))) (d B8 [35,36])))
def l2:=(s (s (d mf [70,71,72]) (i 73 .skip (x 2))) (s (b 3 (s (d qh [73,76,77,78,79,80,81,82,83,84,85,86]) (s (d tk [87,88,89,90,91]) (d QH [92,93])))) (d oy [74,75])))
def c:=(s (d r0 [4]) (s (d r1 [11,12]) (s (s (d r2 [13,14,15,16,17,18]) (i 19 (s (d r3 [0,1,19]) .ret) .skip)) (s (s (d r4 [19,20]) (i 21 (s (s (d r5 [21,22,23,24,25]) (i 26 (s (d r6 [0,1,26]) .ret) .skip)) (s (d r7 [26,27,28]) (s (p r8) (s (s (d r9 [29,30]) (b 0 (w l1))) (s (d iv [0,1,5,6,34,65,66]) .ret))))) .skip)) (s (d EQ [21,67,68,69]) (s (p jf) (s (s (p ko) (b 2 (w l2))) (s (d dJ [0,1,8,9,10,73,94,95,96,97,98,99]) .ret))))))))
end KR
def KR:AFn:=⟨2,KR.c,[.tmp 4],false⟩
namespace Z1
def r0:=[o 4 (.c6 (.c .nil)),o 5 (.c6 (.c (.int .u32 (0))))]
def r1:=[m 9 0,o 10 (.len 9),o 11 (.mk 11 1 4 [(.int .u32 (0))] 10 10),m 6 11]
def r2:=[o 7 (.c6 (.c (.int .u64 (0))))]
def r3:=[m 12 0,o 13 (.len 12),o 14 (.bin .sub 13 (k 1)),m 8 14]
def r4:=[m 15 8,o 16 (.bin .geq 15 (k 0))]
def r6:=[m 19 7,o 20 (.bin .shl 19 (.c (.int .u64 (32)))),m 21 0,m 22 8,o 23 (.b9 none 1 21 22),o 24 (.ld false 1 23),o 25 (.conv .u64 24),
 o 26 (.bin .or 20 25),m 7 26]
def r7:=[m 27 6,m 28 8,m 29 7,m 30 1,o 31 (.conv .u64 30),o 32 (.bin .quo 29 31),o 33 (.conv .u32 32),o 34 (.b9 none 1 27 28),n (.st 1 34 33)]
def r8:=[m 35 7,m 36 1,o 37 (.conv .u64 36),o 38 (.bin .rem 35 37),m 7 38]
def r5:=[m 17 8,o 18 (.bin .sub 17 (k 1)),m 8 18]
def r9:=[m 39 6,o 40 (.call 101 [39]),m 41 7,o 42 (.conv .u32 41),m 4 40,m 5 42]
def l1:=(s (s (d r4 [15]) (i 16 .skip (x 0))) (s (b 1 (s (d r6 [16,19,20,21,22,23,24,25,26]) (s (d r7 [27,28,29,30,31,32,33,34]) (d r8 [35,36,37,38])))) (d r5 [17,18])))
def c:=(s (d r0 [4,5]) (s (d r1 [9,10,11]) (s (p r2) (s (s (d r3 [12,13,14]) (b 0 (w l1))) (s (d r9 [0,1,6,7,8,16,39,40,41,42]) .ret)))))
end Z1
def Z1:AFn:=⟨2,Z1.c,[.tmp 4,.tmp 5],false⟩
namespace D5
def r0:=[o 4 (.c6 (.c .nil)),o 5 (.c6 (.c .nil)),o 6 (.c6 (k 0))]
def r1:=[m 27 0,o 28 (.call 101 [27]),m 29 1,o 30 (.call 101 [29]),m 0 28,m 1 30]
def r2:=[m 31 1,o 32 (.len 31),o 33 (.bin .eql 32 (k 0))]
def r3:=[o 4 (.c6 (.c .nil)),o 5 (.c6 (.c .nil)),o 6 (.c6 (k 3))]
def r4:=[m 34 1,o 35 (.len 34),o 36 (.bin .eql 35 (k 1))]
def r5:=[m 38 0,m 39 1,o 40 (.b9 none 1 39 (k 0)),o 41 (.ld false 1 40),o 42 (.call 108 [38,41]),m 37 42,o 43 (.ext 37 0),o 44 (.ext 37 1),m 7 43,m 8 44]
def r6:=[m 45 7,m 46 8,o 47 (.m4 47 1 [46]),o 48 (.call 101 [47]),m 4 45,m 5 48,o 6 (.c6 (k 0))]
def r7:=[m 49 0,m 50 1,o 51 (.call 102 [49,50]),o 52 (.bin .lss 51 (k 0))]
def r8:=[m 53 0,o 4 (.c6 (.c .nil)),m 5 53,o 6 (.c6 (k 0))]
def r9:=[m 54 1,m 55 1,o 56 (.len 55),o 57 (.bin .sub 56 (k 1)),o 58 (.ke 1 54 (some 57) none),o 59 (.call 106 [58]),o 60 (.bin .sub (k 32) 59),m 9 60]
def BZ:=[m 61 0,m 62 9,o 63 (.m7 107 [61,62]),m 64 1,m 65 9,o 66 (.call 107 [64,65]),m 10 63,m 11 66]
def B8:=[m 67 10,o 68 (.m4 68 1 [(.c (.int .u32 (0)))]),o 69 (.app 69 1 4 67 68),m 10 69]
def ct:=[m 70 10,o 71 (.len 70),m 72 0,o 73 (.len 72),o 74 (.bin .add 73 (k 1)),o 75 (.bin .lss 71 74)]
def C3:=[m 76 10,o 77 (.m4 77 1 [(.c (.int .u32 (0)))]),o 78 (.app 78 1 4 76 77),m 10 78]
def ft:=[m 79 11,o 80 (.len 79),m 12 80]
def fu:=[m 81 10,o 82 (.len 81),m 83 12,o 84 (.bin .sub 82 83),o 85 (.mk 85 1 4 [(.int .u32 (0))] 84 84),m 13 85]
def iv:=[m 86 10,o 87 (.len 86),m 88 12,o 89 (.bin .sub 87 88),o 90 (.bin .sub 89 (k 1)),m 14 90]
def EQ:=[m 91 14,o 92 (.bin .geq 91 (k 0))]
def ko:=[m 95 10,m 96 14,m 97 12,o 98 (.bin .add 96 97),o 99 (.b9 none 1 95 98),o 100 (.ld false 1 99),o 101 (.conv .u64 100),
 o 102 (.bin .shl 101 (.c (.int .u64 (32)))),m 103 10,m 104 14,m 105 12,o 106 (.bin .add 104 105),o 107 (.bin .sub 106 (k 1)),
 o 108 (.b9 none 1 103 107),o 109 (.ld false 1 108),o 110 (.conv .u64 109),o 111 (.bin .or 102 110),m 15 111]
def mf:=[m 112 15,m 113 11,m 114 12,o 115 (.bin .sub 114 (k 1)),o 116 (.b9 none 1 113 115),o 117 (.ld false 1 116),o 118 (.conv .u64 117),
 o 119 (.bin .quo 112 118),m 16 119]
def oy:=[m 120 15,m 121 11,m 122 12,o 123 (.bin .sub 122 (k 1)),o 124 (.b9 none 1 121 123),o 125 (.ld false 1 124),o 126 (.conv .u64 125),
 o 127 (.bin .rem 120 126),m 17 127]
def qh:=[m 128 16,o 129 (.bin .geq 128 (.c (.int .u64 (4294967296)))),m 130 129,g 131 130 false (.c6 16),g 132 130 false (.c6 11),g 133 130 false (.c6 12),
 g 134 130 false (.bin .sub 133 (k 2)),g 135 130 false (.b9 none 1 132 134),g 136 130 false (.ld false 1 135),g 137 130 false (.conv .u64 136),
 g 138 130 false (.bin .mul 131 137),g 139 130 false (.c6 17),g 140 130 false (.bin .shl 139 (.c (.int .u64 (32)))),g 141 130 false (.c6 10),
 g 142 130 false (.c6 14),g 143 130 false (.c6 12),g 144 130 false (.bin .add 142 143),g 145 130 false (.bin .sub 144 (k 2)),
 g 146 130 false (.b9 none 1 141 145),g 147 130 false (.ld false 1 146),g 148 130 false (.conv .u64 147),g 149 130 false (.bin .or 140 148),
 g 150 130 false (.bin .gtr 138 149),o 151 (.pick 130 (.c (.bool true)) 150)]
def tk:=[m 152 16,o 153 (.bin .sub 152 (.c (.int .u64 (1)))),m 16 153]
def QH:=[m 154 17,m 155 11,m 156 12,o 157 (.bin .sub 156 (k 1)),o 158 (.b9 none 1 155 157),o 159 (.ld false 1 158),o 160 (.conv .u64 159),
 o 161 (.bin .add 154 160),m 17 161]
def dJ:=[m 162 17,o 163 (.bin .geq 162 (.c (.int .u64 (4294967296))))]
def iI:=[o 18 (.c6 (.c (.int .u64 (0)))),o 19 (.c6 (.c (.int .u64 (0))))]
def iJ:=[o 20 (.c6 (k 0))]
def nU:=[m 164 20,m 165 12,o 166 (.bin .lss 164 165)]
def Mf:=[m 169 19,m 170 16,m 171 11,m 172 20,o 173 (.b9 none 1 171 172),o 174 (.ld false 1 173),o 175 (.conv .u64 174),o 176 (.bin .mul 170 175),
 o 177 (.bin .add 169 176),m 19 177]
def Mg:=[m 178 19,o 179 (.bin .and 178 (.c (.int .u64 (4294967295)))),m 180 18,o 181 (.bin .add 179 180),m 21 181]
def r32:=[m 182 19,o 183 (.bin .shr 182 (.c (.int .u64 (32)))),m 19 183]
def r33:=[m 184 10,m 185 20,m 186 14,o 187 (.bin .add 185 186),o 188 (.b9 none 1 184 187),o 189 (.ld false 1 188),o 190 (.conv .u64 189),m 22 190]
def r34:=[o 18 (.c6 (.c (.int .u64 (0))))]
def r35:=[m 191 22,m 192 21,o 193 (.bin .lss 191 192)]
def r36:=[m 194 22,o 195 (.bin .add 194 (.c (.int .u64 (4294967296)))),m 22 195]
def r37:=[o 18 (.c6 (.c (.int .u64 (1))))]
def r38:=[m 196 10,m 197 20,m 198 14,o 199 (.bin .add 197 198),m 200 22,m 201 21,o 202 (.bin .sub 200 201),o 203 (.conv .u32 202),o 204 (.b9 none 1 196 199),
 n (.st 1 204 203)]
def nV:=[m 167 20,o 168 (.bin .add 167 (k 1)),m 20 168]
def r39:=[m 205 19,m 206 18,o 207 (.bin .add 205 206),m 23 207]
def r40:=[m 208 10,m 209 14,m 210 12,o 211 (.bin .add 209 210),o 212 (.b9 none 1 208 211),o 213 (.ld false 1 212),o 214 (.conv .u64 213),m 24 214]
def r41:=[o 18 (.c6 (.c (.int .u64 (0))))]
def r42:=[m 215 24,m 216 23,o 217 (.bin .lss 215 216)]
def r43:=[m 218 24,o 219 (.bin .add 218 (.c (.int .u64 (4294967296)))),m 24 219]
def r44:=[o 18 (.c6 (.c (.int .u64 (1))))]
def r45:=[m 220 10,m 221 14,m 222 12,o 223 (.bin .add 221 222),m 224 24,m 225 23,o 226 (.bin .sub 224 225),o 227 (.conv .u32 226),o 228 (.b9 none 1 220 223),
 n (.st 1 228 227)]
def r46:=[m 229 18,o 230 (.bin .eql 229 (.c (.int .u64 (1))))]
def r47:=[m 231 16,o 232 (.bin .sub 231 (.c (.int .u64 (1)))),m 16 232]
def r48:=[o 25 (.c6 (.c (.int .u64 (0))))]
def r49:=[o 26 (.c6 (k 0))]
def r50:=[m 233 26,m 234 12,o 235 (.bin .lss 233 234)]
def r52:=[m 238 25,m 239 10,m 240 26,m 241 14,o 242 (.bin .add 240 241),o 243 (.b9 none 1 239 242),o 244 (.ld false 1 243),o 245 (.conv .u64 244),m 246 11,
 m 247 26,o 248 (.b9 none 1 246 247),o 249 (.ld false 1 248),o 250 (.conv .u64 249),o 251 (.bin .add 245 250),o 252 (.bin .add 238 251),m 25 252]
def r53:=[m 253 10,m 254 26,m 255 14,o 256 (.bin .add 254 255),m 257 25,o 258 (.conv .u32 257),o 259 (.b9 none 1 253 256),n (.st 1 259 258)]
def r54:=[m 260 25,o 261 (.bin .shr 260 (.c (.int .u64 (32)))),m 25 261]
def r51:=[m 236 26,o 237 (.bin .add 236 (k 1)),m 26 237]
def r55:=[m 262 10,m 263 14,m 264 12,o 265 (.bin .add 263 264),o 266 (.b9 none 1 262 265),o 267 (.ld false 1 266),m 268 25,o 269 (.conv .u32 268),
 o 270 (.bin .add 267 269),o 271 (.b9 none 1 262 265),n (.st 1 271 270)]
def r56:=[m 272 13,m 273 14,m 274 16,o 275 (.conv .u32 274),o 276 (.b9 none 1 272 273),n (.st 1 276 275)]
def jf:=[m 93 14,o 94 (.bin .sub 93 (k 1)),m 14 94]
def Un:=[m 277 13,o 278 (.call 101 [277]),m 279 10,m 280 12,o 281 (.ke 1 279 none (some 280)),m 282 9,o 283 (.un .neg 282),o 284 (.call 107 [281,283]),m 4 278,
 m 5 284,o 6 (.c6 (k 0))]
def l1:=(s (s (d ct [70,71,72,73,74]) (i 75 .skip (x 0))) (b 1 (d C3 [75,76,77,78])))
def l3:=(s (s (e qh [128,129,130,131,132,133,134,135,136,137,138,139,140,141,142,143,144,145,146,147,148,149,150,163]) (i 151 .skip (x 4))) (b 5 (s (d tk [151,152,153]) (s (d QH [154,155,156,157,158,159,160,161]) (s (d dJ [162]) (i 163 (x 4) .skip))))))
def l4:=(s (s (d nU [164,165]) (i 166 .skip (x 6))) (s (b 7 (s (d Mf [166,169,170,171,172,173,174,175,176,177]) (s (d Mg [18,178,179,180,181]) (s (d r32 [182,183]) (s (d r33 [184,185,186,187,188,189,190]) (s (p r34) (s (s (d r35 [191,192]) (i 193 (s (d r36 [18,193,194,195]) (p r37)) .skip)) (d r38 [21,22,193,196,197,198,199,200,201,202,203,204])))))))) (d nV [167,168])))
def l5:=(s (s (d r50 [233,234]) (i 235 .skip (x 8))) (s (b 9 (s (e r52 [235,238,239,240,241,242,243,244,245,246,247,248,249,250,251,252]) (s (d r53 [253,254,255,256,257,258,259]) (d r54 [260,261])))) (d r51 [236,237])))
def l2:=(s (s (d EQ [91]) (i 92 .skip (x 2))) (s (b 3 (s (e ko [92,95,96,97,98,99,100,101,102,103,104,105,106,107,108,109,110,111]) (s (d mf [112,113,114,115,116,117,118,119]) (s (d oy [15,120,121,122,123,124,125,126,127]) (s (b 4 (w l3)) (s (d iI [17,151,163]) (s (s (p iJ) (b 6 (w l4))) (s (d r39 [18,19,20,166,205,206,207]) (s (d r40 [208,209,210,211,212,213,214]) (s (p r41) (s (s (d r42 [215,216]) (i 217 (s (d r43 [18,217,218,219]) (p r44)) .skip)) (s (d r45 [23,24,217,220,221,222,223,224,225,226,227,228]) (s (s (d r46 [18,229]) (i 230 (s (d r47 [230,231,232]) (s (p r48) (s (s (p r49) (b 8 (w l5))) (d r55 [25,26,235,262,263,264,265,266,267,268,269,270,271])))) .skip)) (d r56 [16,230,272,273,274,275,276])))))))))))))) (d jf [93,94])))
def c:=(s (d r0 [4,5,6]) (s (d r1 [27,28,29,30]) (s (s (d r2 [31,32]) (i 33 (s (d r3 [0,1,33]) .ret) .skip)) (s (s (d r4 [33,34,35]) (i 36 (s (d r5 [0,1,36,37,38,39,40,41,42,43,44]) (s (d r6 [7,8,45,46,47,48]) .ret)) .skip)) (s (s (d r7 [36,49,50,51]) (i 52 (s (d r8 [0,1,52,53]) .ret) .skip)) (s (d r9 [52,54,55,56,57,58,59,60]) (s (d BZ [1,61,62,63,64,65,66]) (s (d B8 [67,68,69]) (s (b 0 (w l1)) (s (d ft [0,75,79,80]) (s (d fu [81,82,83,84,85]) (s (s (d iv [86,87,88,89,90]) (b 2 (w l2))) (s (e Un [9,10,11,12,13,14,92,277,278,279,280,281,282,283,284]) .ret)))))))))))))
end D5
def D5:AFn:=⟨2,D5.c,[.tmp 4,.tmp 5,.tmp 6],false⟩
namespace ZZ
def r0:=[o 4 (.c6 (.c .nil))]
def r1:=[m 8 0,o 9 (.call 101 [8]),m 10 1,o 11 (.call 101 [10]),m 0 9,m 1 11]
def r2:=[m 12 1,o 13 (.len 12),o 14 (.bin .gtr 13 (k 0))]
def r3:=[m 16 0,m 17 1,o 18 (.call 109 [16,17]),m 15 18,o 19 (.ext 15 0),o 20 (.ext 15 1),o 21 (.ext 15 2),m 5 19,m 6 20,m 7 21]
def r4:=[m 22 1,m 23 6,m 0 22,m 1 23]
def r5:=[m 24 0,m 4 24]
def l1:=(s (s (d r2 [12,13]) (i 14 .skip (x 0))) (b 1 (s (d r3 [0,5,7,14,15,16,17,18,19,20,21]) (d r4 [6,22,23]))))
def c:=(s (d r0 [4]) (s (d r1 [8,9,10,11]) (s (b 0 (w l1)) (s (d r5 [0,1,14,24]) .ret))))
end ZZ
def ZZ:AFn:=⟨2,ZZ.c,[.tmp 4],false⟩
namespace aB
def r0:=[o 1 (.box 1 0),o 2 (.alloc 2 [(.bool false),.nil])]
def r1:=[o 4 (.a7 1 1),o 5 (.ld false 1 4),o 6 (.call 101 [5]),m 3 6]
def r2:=[o 7 (.a7 1 0),o 8 (.ld false 1 7),m 9 8,g 10 9 true (.c6 3),g 11 9 true (.len 10),g 12 9 true (.bin .gtr 11 (k 0)),
 o 13 (.pick 9 12 (.c (.bool false))),m 14 3,o 15 (.build [(.bool false),.nil] [(0,1,13),(1,1,14)]),n (.st 2 2 15)]
def c:=(s (d r0 [0]) (s (d r1 [4,5,6]) (s (d r2 [1,3,7,8,9,10,11,12,13,14,15]) .ret)))
end aB
def aB:AFn:=⟨1,aB.c,[.cell 2 true 2],false⟩
namespace Z8
def r0:=[o 2 (.alloc 2 [(.bool false),.nil])]
def r1:=[m 4 0,o 5 (.bin .lss 4 (k 0))]
def r2:=[m 6 0,o 7 (.bin .add 6 (k 1)),o 8 (.un .neg 7),o 9 (.conv .u64 8),o 10 (.bin .add 9 (.c (.int .u64 (1)))),m 3 10]
def r3:=[m 11 3,o 12 (.conv .u32 11),m 13 3,o 14 (.bin .shr 13 (.c (.int .u64 (32)))),o 15 (.conv .u32 14),o 16 (.m4 16 1 [12,15]),
 o 17 (.build [(.bool false),.nil] [(0,1,(.c (.bool true))),(1,1,16)]),o 18 (.call 111 [17]),n (.st 2 2 18)]
def r4:=[m 19 0,o 20 (.conv .u32 19),m 21 0,o 22 (.conv .u64 21),o 23 (.bin .shr 22 (.c (.int .u64 (32)))),o 24 (.conv .u32 23),o 25 (.m4 25 1 [20,24]),
 o 26 (.build [(.bool false),.nil] [(1,1,25)]),o 27 (.call 111 [26]),n (.st 2 2 27)]
def c:=(s (p r0) (s (s (d r1 [4]) (i 5 (s (d r2 [0,5,6,7,8,9,10]) (s (d r3 [3,11,12,13,14,15,16,17,18]) .ret)) .skip)) (s (d r4 [0,5,19,20,21,22,23,24,25,26,27]) .ret)))
end Z8
def Z8:AFn:=⟨1,Z8.c,[.cell 2 true 2],false⟩
namespace Z9
def r0:=[o 1 (.box 1 0),o 2 (.c6 (k 0))]
def r1:=[o 3 (.ld true 2 1),o 4 (.call 111 [3]),n (.st 2 1 4)]
def r2:=[o 6 (.a7 1 1),o 7 (.ld false 1 6),o 8 (.len 7),o 9 (.bin .eql 8 (k 0)),m 5 9]
def r3:=[o 2 (.c6 (k 0))]
def r4:=[o 11 (.a7 1 0),o 12 (.ld false 1 11),m 10 12]
def r5:=[o 2 (.c6 (k (-1)))]
def r6:=[o 2 (.c6 (k 1))]
def c:=(s (d r0 [0,2]) (s (d r1 [3,4]) (s (b 0 (s (d r2 [6,7,8,9]) (i 5 (s (d r3 [1,5]) .ret) (s (d r4 [1,5,11,12]) (i 10 (s (d r5 [10]) .ret) .skip))))) (s (d r6 [10]) .ret))))
end Z9
def Z9:AFn:=⟨1,Z9.c,[.tmp 2],false⟩
namespace Z7
def r0:=[o 1 (.box 1 0),o 2 (.alloc 2 [(.bool false),.nil])]
def r1:=[o 3 (.ld true 2 1),o 4 (.call 111 [3]),n (.st 2 1 4)]
def r2:=[o 5 (.a7 1 0),o 6 (.ld false 1 5),o 7 (.un .not 6),m 8 7,g 9 8 true (.a7 1 1),g 10 8 true (.ld false 1 9),g 11 8 true (.len 10),
 g 12 8 true (.bin .gtr 11 (k 0)),o 13 (.pick 8 12 (.c (.bool false))),o 14 (.a7 1 0),n (.st 1 14 13)]
def r3:=[o 15 (.ld true 2 1),n (.st 2 2 15)]
def c:=(s (d r0 [0]) (s (d r1 [3,4]) (s (d r2 [5,6,7,8,9,10,11,12,13,14]) (s (d r3 [1,15]) .ret))))
end Z7
def Z7:AFn:=⟨1,Z7.c,[.cell 2 true 2],false⟩
namespace Z2
def r0:=[o 2 (.box 2 0),o 3 (.box 3 1),o 4 (.alloc 4 [(.bool false),.nil])]
def r1:=[o 5 (.ld true 2 2),o 6 (.call 111 [5]),o 7 (.ld true 2 3),o 8 (.call 111 [7]),n (.st 2 2 6),n (.st 2 3 8)]
def r2:=[o 9 (.a7 2 0),o 10 (.ld false 1 9),o 11 (.a7 3 0),o 12 (.ld false 1 11),o 13 (.beq false 10 12)]
def r3:=[o 14 (.a7 2 0),o 15 (.ld false 1 14),o 16 (.a7 2 1),o 17 (.ld false 1 16),o 18 (.a7 3 1),o 19 (.ld false 1 18),o 20 (.call 103 [17,19]),
 o 21 (.build [(.bool false),.nil] [(0,1,15),(1,1,20)]),o 22 (.call 111 [21]),n (.st 2 4 22)]
def r4:=[o 23 (.a7 2 1),o 24 (.ld false 1 23),o 25 (.a7 3 1),o 26 (.ld false 1 25),o 27 (.call 102 [24,26]),o 28 (.bin .geq 27 (k 0))]
def r5:=[o 29 (.a7 2 0),o 30 (.ld false 1 29),o 31 (.a7 2 1),o 32 (.ld false 1 31),o 33 (.a7 3 1),o 34 (.ld false 1 33),o 35 (.call 104 [32,34]),
 o 36 (.build [(.bool false),.nil] [(0,1,30),(1,1,35)]),o 37 (.call 111 [36]),n (.st 2 4 37)]
def r6:=[o 38 (.a7 3 0),o 39 (.ld false 1 38),o 40 (.a7 3 1),o 41 (.ld false 1 40),o 42 (.a7 2 1),o 43 (.ld false 1 42),o 44 (.call 104 [41,43]),
 o 45 (.build [(.bool false),.nil] [(0,1,39),(1,1,44)]),o 46 (.call 111 [45]),n (.st 2 4 46)]
def c:=(s (d r0 [0,1]) (s (e r1 [5,6,7,8]) (s (s (d r2 [9,10,11,12]) (i 13 (s (e r3 [2,3,13,14,15,16,17,18,19,20,21,22]) .ret) .skip)) (s (s (d r4 [13,23,24,25,26,27]) (i 28 (s (e r5 [2,3,28,29,30,31,32,33,34,35,36,37]) .ret) .skip)) (s (e r6 [2,3,28,38,39,40,41,42,43,44,45,46]) .ret)))))
end Z2
def Z2:AFn:=⟨2,Z2.c,[.cell 4 true 2],false⟩
namespace aA
def r0:=[o 2 (.box 2 0),o 3 (.box 3 1),o 4 (.alloc 4 [(.bool false),.nil])]
def r1:=[o 5 (.ld true 2 2),o 6 (.ld true 2 3),o 7 (.call 114 [6]),o 8 (.call 115 [5,7]),n (.st 2 4 8)]
def c:=(s (d r0 [0,1]) (s (e r1 [2,3,5,6,7,8]) .ret))
end aA
def aA:AFn:=⟨2,aA.c,[.cell 4 true 2],false⟩
namespace Z3
def r0:=[o 2 (.box 2 0),o 3 (.box 3 1),o 4 (.c6 (k 0))]
def r1:=[o 5 (.ld true 2 2),o 6 (.ld true 2 3),o 7 (.call 116 [5,6]),o 8 (.call 113 [7]),m 4 8]
def c:=(s (d r0 [0,1,4]) (s (d r1 [2,3,5,6,7,8]) .ret))
end Z3
def Z3:AFn:=⟨2,Z3.c,[.tmp 4],false⟩
namespace Z6
def r0:=[o 2 (.box 2 0),o 3 (.box 3 1),o 4 (.alloc 4 [(.bool false),.nil])]
def r1:=[o 5 (.a7 2 0),o 6 (.ld false 1 5),o 7 (.a7 3 0),o 8 (.ld false 1 7),o 9 (.beq true 6 8),o 10 (.a7 2 1),o 11 (.ld false 1 10),o 12 (.a7 3 1),
 o 13 (.ld false 1 12),o 14 (.call 105 [11,13]),o 15 (.build [(.bool false),.nil] [(0,1,9),(1,1,14)]),o 16 (.call 111 [15]),n (.st 2 4 16)]
def c:=(s (d r0 [0,1]) (s (e r1 [2,3,5,6,7,8,9,10,11,12,13,14,15,16]) .ret))
end Z6
def Z6:AFn:=⟨2,Z6.c,[.cell 4 true 2],false⟩
namespace Z4
def r0:=[o 2 (.box 2 0),o 3 (.box 3 1),o 4 (.alloc 4 [(.bool false),.nil]),o 5 (.alloc 5 [(.bool false),.nil]),o 6 (.c6 (k 0))]
def r1:=[o 10 (.ld true 2 2),o 11 (.call 111 [10]),o 12 (.ld true 2 3),o 13 (.call 111 [12]),n (.st 2 2 11),n (.st 2 3 13)]
def r2:=[o 15 (.a7 2 1),o 16 (.ld false 1 15),o 17 (.a7 3 1),o 18 (.ld false 1 17),o 19 (.call 109 [16,18]),m 14 19,o 20 (.ext 14 0),o 21 (.ext 14 1),
 o 22 (.ext 14 2),m 7 20,m 8 21,m 9 22]
def r3:=[m 23 9,o 24 (.bin .neq 23 (k 0))]
def r4:=[o 25 (.build [(.bool false),.nil] []),o 26 (.build [(.bool false),.nil] []),m 27 9,n (.st 2 4 25),n (.st 2 5 26),m 6 27]
def r5:=[o 28 (.a7 2 0),o 29 (.ld false 1 28),m 30 29,g 31 30 true (.c6 8),g 32 30 true (.len 31),g 33 30 true (.bin .gtr 32 (k 0)),
 o 34 (.pick 30 33 (.c (.bool false)))]
def r6:=[m 35 7,o 36 (.m4 36 1 [(.c (.int .u32 (1)))]),o 37 (.call 103 [35,36]),o 38 (.a7 3 1),q 39 [36] (.ld false 1 38),m 40 8,
 o 41 (.call 104 [39,40]),m 7 37,m 8 41]
def r7:=[o 42 (.a7 2 0),o 43 (.ld false 1 42),o 44 (.a7 3 0),o 45 (.ld false 1 44),o 46 (.beq true 43 45),m 47 7,
 o 48 (.build [(.bool false),.nil] [(0,1,46),(1,1,47)]),o 49 (.call 111 [48]),m 50 8,o 51 (.build [(.bool false),.nil] [(1,1,50)]),n (.st 2 4 49),
 n (.st 2 5 51),o 6 (.c6 (k 0))]
def c:=(s (d r0 [0,1,6]) (s (e r1 [10,11,12,13]) (s (d r2 [14,15,16,17,18,19,20,21,22]) (s (s (d r3 [23]) (i 24 (s (d r4 [2,3,7,8,9,24,25,26,27]) .ret) .skip)) (s (s (d r5 [9,24,28,29,30,31,32,33]) (i 34 (e r6 [34,35,36,37,38,39,40,41]) .skip)) (s (d r7 [2,3,7,8,34,42,43,44,45,46,47,48,49,50,51]) .ret))))))
end Z4
def Z4:AFn:=⟨2,Z4.c,[.cell 4 true 2,.cell 5 true 2,.tmp 6],false⟩
namespace Z5
def r0:=[o 2 (.box 2 0),o 3 (.box 3 1),o 4 (.alloc 4 [(.bool false),.nil])]
def r1:=[o 5 (.a7 2 1),o 6 (.ld false 1 5),o 7 (.a7 3 1),o 8 (.ld false 1 7),o 9 (.call 110 [6,8]),o 10 (.build [(.bool false),.nil] [(1,1,9)]),
 n (.st 2 4 10)]
def c:=(s (d r0 [0,1]) (s (d r1 [2,3,5,6,7,8,9,10]) .ret))
end Z5
def Z5:AFn:=⟨2,Z5.c,[.cell 4 true 2],false⟩
namespace K6
def r0:=[o 2 (.box 2 0),o 3 (.box 3 1),o 4 (.alloc 4 [(.bool false),.nil,.nil])]
def r1:=[o 12 (.ld true 2 2),o 13 (.call 113 [12]),o 14 (.bin .eql 13 (k 0)),m 15 14,g 16 15 false (.ld true 2 3),g 17 15 false (.call 113 [16]),
 g 18 15 false (.bin .eql 17 (k 0)),o 19 (.pick 15 (.c (.bool true)) 18)]
def r2:=[o 20 (.m4 20 1 [(.c (.int .u32 (1)))]),o 21 (.build [(.bool false),.nil,.nil] [(2,1,20)]),n (.st 3 4 21)]
def r3:=[o 22 (.ld true 2 2),o 23 (.ld true 2 3),o 24 (.call 120 [22,23]),o 5 (.alloc 5 [(.bool false),.nil]),n (.st 2 5 24)]
def r4:=[o 26 (.ld true 2 2),o 27 (.ld true 2 5),o 28 (.call 119 [26,27]),m 25 28,o 29 (.ext 25 0),o 30 (.ext 25 1),o 31 (.ext 25 2),
 o 6 (.alloc 6 [(.bool false),.nil]),o 7 (.alloc 7 [(.bool false),.nil]),n (.st 2 6 29),n (.st 2 7 30),m 8 31]
def r5:=[o 33 (.ld true 2 3),o 34 (.ld true 2 5),o 35 (.call 119 [33,34]),m 32 35,o 36 (.ext 32 0),o 37 (.ext 32 1),o 38 (.ext 32 2),
 o 9 (.alloc 9 [(.bool false),.nil]),o 10 (.alloc 10 [(.bool false),.nil]),n (.st 2 9 36),n (.st 2 10 37),m 11 38]
def r6:=[o 39 (.a7 9 0),o 40 (.ld false 1 39)]
def r7:=[o 41 (.ld true 2 6),o 42 (.call 114 [41]),n (.st 2 6 42)]
def r8:=[o 43 (.ld true 2 6),o 44 (.a7 9 1),o 45 (.ld false 1 44),o 46 (.build [(.bool false),.nil,.nil] [(0,2,43),(2,1,45)]),n (.st 3 4 46)]
def c:=(s (d r0 [0,1]) (s (s (d r1 [12,13,14,15,16,17,18]) (i 19 (s (d r2 [2,3,19,20,21]) .ret) .skip)) (s (d r3 [19,22,23,24]) (s (d r4 [2,7,8,25,26,27,28,29,30,31]) (s (d r5 [3,5,10,11,32,33,34,35,36,37,38]) (s (s (d r6 [39]) (i 40 (d r7 [40,41,42]) .skip)) (s (d r8 [6,9,40,43,44,45,46]) .ret)))))))
end K6
def K6:AFn:=⟨2,K6.c,[.cell 4 true 3],false⟩
namespace SF
def r0:=[o 1 (.box 1 0),o 2 (.alloc 2 [(.bool false),.nil]),o 3 (.alloc 3 [(.bool false),.nil])]
def r1:=[o 5 (.a7 1 2),o 6 (.ld false 1 5),o 7 (.call 101 [6]),o 8 (.build [(.bool false),.nil] [(1,1,7)]),o 4 (.alloc 4 [(.bool false),.nil]),n (.st 2 4 8)]
def r2:=[o 9 (.a7 4 1),o 10 (.ld false 1 9),o 11 (.len 10),o 12 (.bin .eql 11 (k 0))]
def r3:=[o 13 (.build [(.bool false),.nil] []),o 14 (.m4 14 1 [(.c (.int .u32 (1)))]),o 15 (.build [(.bool false),.nil] [(1,1,14)]),n (.st 2 2 13),
 n (.st 2 3 15)]
def r4:=[o 16 (.a7 1 0),o 17 (.ld true 2 16),q 18 [2] (.ld true 2 4),n (.rm 2 2 2 17),n (.st 2 3 18)]
def c:=(s (d r0 [0]) (s (d r1 [5,6,7,8]) (s (s (d r2 [9,10,11]) (i 12 (s (d r3 [1,4,12,13,14,15]) .ret) .skip)) (s (e r4 [1,4,12,16,17,18]) .ret))))
end SF
def SF:AFn:=⟨1,SF.c,[.cell 2 true 2,.cell 3 true 2],false⟩
namespace aH
def r0:=[o 1 (.box 1 0),o 2 (.alloc 2 [(.bool false),.nil,.nil])]
def r1:=[o 6 (.ld true 3 1),o 7 (.call 122 [6]),m 5 7,o 8 (.ext 5 0),o 9 (.ext 5 1),o 3 (.alloc 3 [(.bool false),.nil]),o 4 (.alloc 4 [(.bool false),.nil]),
 n (.st 2 3 8),n (.st 2 4 9)]
def r2:=[o 10 (.ld true 2 3),o 11 (.ld true 2 4),o 12 (.call 121 [10,11]),n (.st 3 2 12)]
def c:=(s (d r0 [0]) (s (d r1 [1,5,6,7,8,9]) (s (d r2 [3,4,10,11,12]) .ret)))
end aH
def aH:AFn:=⟨1,aH.c,[.cell 2 true 3],false⟩
namespace aG
def r0:=[o 2 (.alloc 2 [(.bool false),.nil,.nil])]
def r1:=[m 3 0,o 4 (.call 112 [3]),o 5 (.m4 5 1 [(.c (.int .u32 (1)))]),o 6 (.build [(.bool false),.nil,.nil] [(0,2,4),(2,1,5)]),n (.st 3 2 6)]
def c:=(s (p r0) (s (d r1 [0,3,4,5,6]) .ret))
end aG
def aG:AFn:=⟨1,aG.c,[.cell 2 true 3],false⟩
namespace aD
def r0:=[o 4 (.alloc 4 [(.bool false),.nil,.nil])]
def r1:=[m 5 0,o 6 (.call 112 [5]),m 7 1,o 8 (.call 112 [7]),o 9 (.call 121 [6,8]),n (.st 3 4 9)]
def c:=(s (p r0) (s (d r1 [0,1,5,6,7,8,9]) .ret))
end aD
def aD:AFn:=⟨2,aD.c,[.cell 4 true 3],false⟩
namespace aC
def r0:=[o 2 (.box 2 0),o 3 (.box 3 1),o 4 (.c6 (k 0))]
def r1:=[o 10 (.ld true 3 2),o 11 (.call 122 [10]),m 9 11,o 12 (.ext 9 0),o 13 (.ext 9 1),o 5 (.alloc 5 [(.bool false),.nil]),
 o 6 (.alloc 6 [(.bool false),.nil]),n (.st 2 5 12),n (.st 2 6 13)]
def r2:=[o 15 (.ld true 3 3),o 16 (.call 122 [15]),m 14 16,o 17 (.ext 14 0),o 18 (.ext 14 1),o 7 (.alloc 7 [(.bool false),.nil]),
 o 8 (.alloc 8 [(.bool false),.nil]),n (.st 2 7 17),n (.st 2 8 18)]
def r3:=[o 19 (.ld true 2 5),o 20 (.ld true 2 8),o 21 (.call 118 [19,20]),o 22 (.ld true 2 7),o 23 (.ld true 2 6),o 24 (.call 118 [22,23]),
 o 25 (.call 117 [21,24]),m 4 25]
def c:=(s (d r0 [0,1,4]) (s (d r1 [2,9,10,11,12,13]) (s (d r2 [3,14,15,16,17,18]) (s (e r3 [5,6,7,8,19,20,21,22,23,24,25]) .ret))))
end aC
def aC:AFn:=⟨2,aC.c,[.tmp 4],false⟩
namespace aE
def r0:=[o 2 (.box 2 0),o 3 (.box 3 1),o 4 (.alloc 4 [(.bool false),.nil,.nil])]
def r1:=[o 10 (.ld true 3 2),o 11 (.call 122 [10]),m 9 11,o 12 (.ext 9 0),o 13 (.ext 9 1),o 5 (.alloc 5 [(.bool false),.nil]),
 o 6 (.alloc 6 [(.bool false),.nil]),n (.st 2 5 12),n (.st 2 6 13)]
def r2:=[o 15 (.ld true 3 3),o 16 (.call 122 [15]),m 14 16,o 17 (.ext 14 0),o 18 (.ext 14 1),o 7 (.alloc 7 [(.bool false),.nil]),
 o 8 (.alloc 8 [(.bool false),.nil]),n (.st 2 7 17),n (.st 2 8 18)]
def r3:=[o 19 (.ld true 2 5),o 20 (.ld true 2 7),o 21 (.call 118 [19,20]),o 22 (.ld true 2 6),o 23 (.ld true 2 8),o 24 (.call 118 [22,23]),
 o 25 (.call 121 [21,24]),n (.st 3 4 25)]
def c:=(s (d r0 [0,1]) (s (d r1 [2,9,10,11,12,13]) (s (d r2 [3,14,15,16,17,18]) (s (e r3 [5,6,7,8,19,20,21,22,23,24,25]) .ret))))
end aE
def aE:AFn:=⟨2,aE.c,[.cell 4 true 3],false⟩
structure l7 (L:Lib):Prop where
 IO:L 101=some F.IO
 ZY:L 102=some F.ZY
 ZW:L 103=some F.ZW
 OT:L 104=some F.OT
 Z0:L 105=some F.Z0
 ZX:L 106=some F.ZX
 KR:L 107=some F.KR
 Z1:L 108=some F.Z1
 D5:L 109=some F.D5
 ZZ:L 110=some F.ZZ
 aB:L 111=some F.aB
 Z8:L 112=some F.Z8
 Z9:L 113=some F.Z9
 Z7:L 114=some F.Z7
 Z2:L 115=some F.Z2
 aA:L 116=some F.aA
 Z3:L 117=some F.Z3
 Z6:L 118=some F.Z6
 Z4:L 119=some F.Z4
 Z5:L 120=some F.Z5
 K6:L 121=some F.K6
 SF:L 122=some F.SF
 aH:L 123=some F.aH
 aG:L 124=some F.aG
 aD:L 125=some F.aD
 aC:L 127=some F.aC
 aE:L 128=some F.aE
end Go.e9.F
namespace Go.e9.F
open C
namespace YW
def r0:=[o 1 (.box 1 0),o 2 (.c6 (.c (.bool false)))]
def r1:=[o 6 (.a7 1 0),o 7 (.ld false 1 6),o 8 (.len 7),m 3 8]
def r2:=[m 9 3,o 10 (.bin .gtr 9 (k 64)),m 11 10,g 12 11 false (.a7 1 1),g 13 11 false (.ld false 1 12),g 14 11 false (.len 13),g 15 11 false (.c6 3),
 g 16 11 false (.bin .neq 14 15),o 17 (.pick 11 (.c (.bool true)) 16),m 18 17,g 19 18 false (.a7 1 2),g 20 18 false (.ld false 1 19),
 g 21 18 false (.len 20),g 22 18 false (.c6 3),g 23 18 false (.bin .neq 21 22),o 24 (.pick 18 (.c (.bool true)) 23)]
def r3:=[o 2 (.c6 (.c (.bool false)))]
def r4:=[o 25 (.a7 1 0),o 26 (.ld false 1 25),o 27 (.len 26),o 28 (.c6 (k 0))]
def r5:=[o 29 (.bin .lss 28 27)]
def r6:=[o 30 (.b9 none 1 26 28),o 31 (.ld false 1 30),m 5 31]
def r7:=[m 32 5,o 33 (.len 32),m 34 3,o 35 (.bin .neq 33 34)]
def r8:=[o 2 (.c6 (.c (.bool false)))]
def r9:=[o 36 (.bin .add 28 (k 1)),m 28 36]
def BZ:=[o 2 (.c6 (.c (.bool true)))]
def l1:=(s (p r5) (s (i 29 .skip (x 0)) (s (b 1 (s (d r6 [29,30,31]) (s (d r7 [5,32,33,34]) (i 35 (s (d r8 [3,26,27,28,35]) .ret) .skip)))) (d r9 [35,36]))))
def c:=(s (d r0 [0,2]) (s (d r1 [6,7,8]) (s (s (d r2 [9,10,11,12,13,14,15,16,17,18,19,20,21,22,23]) (i 24 (s (d r3 [1,3,24]) .ret) .skip)) (s (s (d r4 [1,24,25]) (b 0 (w l1))) (s (d BZ [3,26,27,28,29]) .ret)))))
end YW
def YW:AFn:=⟨1,YW.c,[.tmp 2],false⟩
structure jt (L:Lib):Prop extends a5 L,l7 L where
 YW:L 130=some F.YW
end Go.e9.F

namespace Go.e9.F
open C
structure mu (L:Lib):Prop where
structure tn (L:Lib):Prop extends mu L where
structure pc (L:Lib):Prop extends jt L,tn L where
end Go.e9.F

namespace Go.e9.F
open C
namespace ZR
def r0:=[o 1 (.box 1 0),o 2 (.alloc 2 [(.bool false),.nil,.nil])]
def r1:=[o 3 (.a7 1 0),o 4 (.a7 3 0),o 5 (.ld false 1 4),o 6 (.un .not 5),o 7 (.a7 1 0),o 8 (.a7 7 1),o 9 (.ld false 1 8),
 o 10 (.build [(.bool false),.nil] [(0,1,6),(1,1,9)]),o 11 (.a7 1 2),o 12 (.ld false 1 11),
 o 13 (.build [(.bool false),.nil,.nil] [(0,2,10),(2,1,12)]),n (.st 3 2 13)]
def c:=(s (d r0 [0]) (s (d r1 [1,3,4,5,6,7,8,9,10,11,12,13]) .ret))
end ZR
def ZR:AFn:=⟨1,ZR.c,[.cell 2 true 3],false⟩
namespace ZP
def r0:=[o 2 (.box 2 0),o 3 (.box 3 1),o 4 (.alloc 4 [(.bool false),.nil,.nil])]
def r1:=[o 5 (.ld true 3 2),o 6 (.ld true 3 3),o 7 (.w9 149 [6]),o 8 (.call 98 [5,7]),n (.st 3 4 8)]
def c:=(s (d r0 [0,1]) (s (e r1 [2,3,5,6,7,8]) .ret))
end ZP
def ZP:AFn:=⟨2,ZP.c,[.cell 4 true 3],false⟩
structure cp (L:Lib):Prop extends a5 L where
 ZR:L 149=some F.ZR
 ZP:L 150=some F.ZP
end Go.e9.F

namespace Go.e9.F
open C
namespace ZJ
def r0:=[o 2 (.c6 (.c .nil))]
def r1:=[m 4 0,o 5 (.len 4),m 3 5]
def r2:=[m 6 3,o 7 (.bin .gtr 6 (k 0)),m 8 7,g 9 8 true (.c6 0),g 10 8 true (.c6 3),g 11 8 true (.bin .sub 10 (k 1)),g 12 8 true (.b9 none 3 9 11),
 g 13 8 true (.ld true 3 12),g 14 8 true (.call 97 [13]),g 15 8 true (.bin .eql 14 (k 0)),o 16 (.pick 8 15 (.c (.bool false)))]
def r3:=[m 17 3,o 18 (.bin .sub 17 (k 1)),m 3 18]
def r4:=[m 19 0,m 20 3,o 21 (.ke 3 19 none (some 20)),m 2 21]
def l1:=(s (s (d r2 [6,7,8,9,10,11,12,13,14,15]) (i 16 .skip (x 0))) (b 1 (d r3 [16,17,18])))
def c:=(s (d r0 [2]) (s (d r1 [4,5]) (s (b 0 (w l1)) (s (d r4 [0,3,16,19,20,21]) .ret))))
end ZJ
def ZJ:AFn:=⟨1,ZJ.c,[.tmp 2],false⟩
structure mw (L:Lib):Prop extends a5 L where
 ZJ:L 169=some F.ZJ
end Go.e9.F

namespace Go.e9.F
open C
namespace aF
def r0:=[o 1 (.box 1 0),o 2 (.alloc 2 [(.bool false),.nil,.nil])]
def r1:=[o 3 (.ld true 3 1),o 4 (.call 123 [3]),n (.st 3 1 4)]
def r2:=[o 5 (.a7 1 0),o 6 (.ld true 2 5),o 7 (.call 114 [6]),o 8 (.a7 1 0),n (.st 2 8 7)]
def r3:=[o 9 (.ld true 3 1),n (.st 3 2 9)]
def c:=(s (d r0 [0]) (s (d r1 [3,4]) (s (d r2 [5,6,7,8]) (s (d r3 [1,9]) .ret))))
end aF
def aF:AFn:=⟨1,aF.c,[.cell 2 true 3],false⟩
structure ic (L:Lib):Prop extends l7 L where
 aF:L 152=some F.aF
end Go.e9.F

namespace Go.e9.F
open C
structure pd (L:Lib):Prop extends ic L where
structure yg (L:Lib):Prop extends pc L,cp L,mw L,pd L where
end Go.e9.F

namespace Go.e9.F
open C
namespace XU
def r0:=[o 2 (.box 2 0),o 3 (.box 3 1),o 4 (.c6 (k 0))]
def r1:=[o 7 (.ld true 2 2),o 8 (.call 86 [7]),o 9 (.ld true 2 3),o 10 (.call 86 [9]),m 5 8,m 6 10]
def r2:=[m 12 5,m 13 6,o 14 (.bin .lss 12 13),m 11 14]
def r3:=[o 4 (.c6 (k (-1)))]
def r4:=[m 16 5,m 17 6,o 18 (.bin .gtr 16 17),m 15 18]
def r5:=[o 4 (.c6 (k 1))]
def r6:=[m 20 5,o 21 (.bin .eql 20 (k (-1))),m 19 21]
def r7:=[o 22 (.a7 3 1),o 23 (.ld false 1 22),o 24 (.a7 2 1),o 25 (.ld false 1 24),o 26 (.call 67 [23,25]),m 4 26]
def r8:=[o 27 (.a7 2 1),o 28 (.ld false 1 27),o 29 (.a7 3 1),o 30 (.ld false 1 29),o 31 (.call 67 [28,30]),m 4 31]
def c:=(s (d r0 [0,1,4]) (s (e r1 [7,8,9,10]) (s (b 0 (s (d r2 [12,13,14]) (i 11 (s (d r3 [2,3,5,6,11]) .ret) (s (d r4 [6,11,16,17,18]) (i 15 (s (d r5 [2,3,5,15]) .ret) (s (d r6 [5,15,20,21]) (i 19 (s (d r7 [2,3,19,22,23,24,25,26]) .ret) .skip))))))) (s (d r8 [2,3,19,27,28,29,30,31]) .ret))))
end XU
def XU:AFn:=⟨2,XU.c,[.tmp 4],false⟩
namespace QT
def r0:=[o 2 (.box 2 0),o 3 (.box 3 1),o 4 (.c6 (k 0))]
def r1:=[q 7 [5,6] (.ld true 3 2),q 8 [5,6] (.w9 89 [7]),q 9 [5,6] (.ld true 3 3),q 10 [5,6] (.w9 89 [9]),
 o 5 (.alloc 5 [(.bool false),.nil,.nil,(.bool false)]),o 6 (.alloc 6 [(.bool false),.nil,.nil,(.bool false)]),n (.st 4 5 8),n (.st 4 6 10)]
def r2:=[o 11 (.a7 5 3),o 12 (.ld false 1 11),m 13 12,g 14 13 true (.a7 6 3),g 15 13 true (.ld false 1 14),o 16 (.pick 13 15 (.c (.bool false)))]
def r3:=[o 17 (.a7 5 0),o 18 (.a7 17 0),o 19 (.ld true 2 18),o 20 (.a7 6 0),o 21 (.a7 20 0),o 22 (.ld true 2 21),o 23 (.call 197 [19,22]),m 4 23]
def r4:=[o 24 (.a7 5 0),o 25 (.a7 24 0),o 26 (.ld true 2 25),o 27 (.a7 6 0),o 28 (.a7 27 2),o 29 (.ld false 1 28),o 30 (.w9 91 [29]),
 o 31 (.call 88 [26,30]),o 32 (.a7 6 0),o 33 (.a7 32 0),o 34 (.ld true 2 33),o 35 (.a7 5 0),o 36 (.a7 35 2),o 37 (.ld false 1 36),
 o 38 (.w9 91 [37]),o 39 (.call 88 [34,38]),o 40 (.call 197 [31,39]),m 4 40]
def c:=(s (d r0 [0,1,4]) (s (e r1 [2,3,7,8,9,10]) (s (s (d r2 [11,12,13,14,15]) (i 16 (s (d r3 [5,6,16,17,18,19,20,21,22,23]) .ret) .skip)) (s (e r4 [5,6,16,24,25,26,27,28,29,30,31,32,33,34,35,36,37,38,39,40]) .ret))))
end QT
def QT:AFn:=⟨2,QT.c,[.tmp 4],false⟩
namespace ZM
def r0:=[o 1 (.box 1 0),o 2 (.alloc 2 [(.bool false),.nil,.nil])]
def r1:=[o 3 (.ld true 3 1),o 4 (.w9 149 [3]),o 5 (.call 95 [4]),n (.st 3 2 5)]
def c:=(s (d r0 [0]) (s (d r1 [1,3,4,5]) .ret))
end ZM
def ZM:AFn:=⟨1,ZM.c,[.cell 2 true 3],false⟩
namespace ZI
def r0:=[o 2 (.c6 (k 0))]
def r1:=[m 3 0,o 4 (.m7 169 [3]),o 5 (.len 4),o 6 (.bin .sub 5 (k 1)),m 2 6]
def c:=(s (d r0 [2]) (s (d r1 [0,3,4,5,6]) .ret))
end ZI
def ZI:AFn:=⟨1,ZI.c,[.tmp 2],false⟩
namespace aI
def r0:=[o 1 (.box 1 0),o 2 (.c6 (.c (.bool false)))]
def r1:=[o 3 (.a7 1 0),o 4 (.ld false 1 3),o 5 (.call 200 [4]),o 6 (.bin .gtr 5 (k 48)),m 7 6,g 8 7 false (.a7 1 1),g 9 7 false (.ld false 1 8),
 g 10 7 false (.call 200 [9]),g 11 7 false (.bin .gtr 10 (k 48)),o 12 (.pick 7 (.c (.bool true)) 11)]
def r2:=[o 2 (.c6 (.c (.bool false)))]
def r3:=[o 13 (.a7 1 1),o 14 (.ld false 1 13),o 15 (.len 14),o 16 (.bin .gtr 15 (k 0)),m 17 16,g 18 17 true (.a7 1 1),g 19 17 true (.ld false 1 18),
 g 20 17 true (.b9 none 3 19 (k 0)),g 21 17 true (.ld true 3 20),g 22 17 true (.call 96 [(k 1)]),g 23 17 true (.call 198 [21,22]),
 g 24 17 true (.bin .eql 23 (k 0)),o 25 (.pick 17 24 (.c (.bool false))),m 2 25]
def c:=(s (d r0 [0,2]) (s (s (d r1 [3,4,5,6,7,8,9,10,11]) (i 12 (s (d r2 [1,12]) .ret) .skip)) (s (e r3 [1,12,13,14,15,16,17,18,19,20,21,22,23,24,25]) .ret)))
end aI
def aI:AFn:=⟨1,aI.c,[.tmp 2],false⟩
namespace aU
def r0:=[o 2 (.c6 (k 0))]
def r1:=[m 4 0,o 5 (.len 4),o 6 (.bin .sub 5 (k 1)),m 3 6]
def r2:=[m 7 3,o 8 (.bin .gtr 7 (k 0))]
def r4:=[m 11 0,m 12 3,o 13 (.b9 none 3 11 12),o 14 (.ld true 3 13),o 15 (.call 97 [14]),o 16 (.bin .neq 15 (k 0))]
def r5:=[m 17 3,m 2 17]
def r3:=[m 9 3,o 10 (.bin .sub 9 (k 1)),m 3 10]
def r6:=[o 2 (.c6 (k 0))]
def l1:=(s (s (d r2 [7]) (i 8 .skip (x 0))) (s (b 1 (s (d r4 [8,11,12,13,14,15]) (i 16 (s (d r5 [0,3,16,17]) .ret) .skip))) (d r3 [9,10,16])))
def c:=(s (d r0 [2]) (s (s (d r1 [4,5,6]) (b 0 (w l1))) (s (d r6 [0,3,8]) .ret)))
end aU
def aU:AFn:=⟨1,aU.c,[.tmp 2],false⟩
namespace aR
def r0:=[o 4 (.alloc 4 [(.bool false),.nil,.nil])]
def r1:=[m 5 1,m 6 0,o 7 (.len 6),o 8 (.bin .lss 5 7)]
def r2:=[m 9 0,m 10 1,o 11 (.b9 none 3 9 10),o 12 (.ld true 3 11),o 13 (.call 95 [12]),n (.st 3 4 13)]
def r3:=[o 14 (.call 96 [(k 0)]),n (.st 3 4 14)]
def c:=(s (p r0) (s (s (d r1 [5,6,7]) (i 8 (s (d r2 [0,1,8,9,10,11,12,13]) .ret) .skip)) (s (d r3 [0,1,8,14]) .ret)))
end aR
def aR:AFn:=⟨2,aR.c,[.cell 4 true 3],false⟩
namespace aY
def r0:=[o 2 (.c6 (.c .nil))]
def r1:=[m 5 0,o 6 (.mk 6 3 56 [(.bool false),.nil,.nil] 5 5),m 3 6]
def r2:=[m 7 0,o 8 (.c6 (k 0))]
def r3:=[o 9 (.bin .lss 8 7)]
def r4:=[m 10 8,m 4 10]
def r5:=[m 11 3,m 12 4,o 13 (.call 96 [(k 0)]),o 14 (.b9 none 3 11 12),n (.st 3 14 13)]
def r6:=[o 15 (.bin .add 8 (k 1)),m 8 15]
def r7:=[m 16 3,m 2 16]
def l1:=(s (p r3) (s (i 9 .skip (x 0)) (s (b 1 (s (d r4 [9,10]) (d r5 [4,11,12,13,14]))) (d r6 [15]))))
def c:=(s (d r0 [2]) (s (d r1 [5,6]) (s (s (d r2 [0]) (b 0 (w l1))) (s (d r7 [3,7,8,9,16]) .ret))))
end aY
def aY:AFn:=⟨1,aY.c,[.tmp 2],false⟩
namespace SR
def r0:=[o 1 (.box 1 0),o 2 (.alloc 2 [.nil,.nil,.nil,(.bool false),.nil,.nil]),o 3 (.c6 (k 0))]
def r1:=[o 10 (.ld true 2 1),o 11 (.call 201 [10]),o 12 (.un .not 11)]
def r2:=[o 13 (.build [.nil,.nil,.nil,(.bool false),.nil,.nil] []),n (.st 6 2 13),o 3 (.c6 (k 2))]
def r3:=[o 14 (.a7 1 0),o 15 (.ld false 1 14),o 16 (.call 204 [15]),o 17 (.a7 1 1),o 18 (.ld false 1 17),o 19 (.call 204 [18]),o 20 (.mm true [16,19]),
 m 4 20]
def r4:=[m 21 4,o 22 (.bin .gtr 21 (k 16))]
def r5:=[o 23 (.build [.nil,.nil,.nil,(.bool false),.nil,.nil] []),n (.st 6 2 23),o 3 (.c6 (k 12))]
def r6:=[o 24 (.a7 1 0),o 25 (.ld false 1 24),o 26 (.call 205 [25,(k 0)]),m 27 4,o 28 (.bm 28 206 [27]),
 o 29 (.build [.nil,.nil,.nil,(.bool false),.nil,.nil] [(3,3,26),(1,1,28)]),o 5 (.alloc 5 [.nil,.nil,.nil,(.bool false),.nil,.nil]),
 n (.st 6 5 29)]
def r7:=[m 30 4,o 31 (.bin .gtr 30 (k 0))]
def r8:=[o 32 (.a7 5 1),o 33 (.ld false 1 32),o 34 (.call 96 [(k 1)]),o 35 (.b9 none 3 33 (k 0)),n (.st 3 35 34)]
def r9:=[m 36 4,o 37 (.c6 (k 0))]
def BZ:=[o 38 (.bin .lss 37 36)]
def B8:=[m 39 37,m 6 39]
def ct:=[m 40 4,o 41 (.bm 41 206 [40]),m 7 41]
def C3:=[m 42 6,o 43 (.bin .gtr 42 (k 0))]
def ft:=[m 44 7,m 45 6,o 46 (.bin .sub 45 (k 1)),o 47 (.call 96 [(k 1)]),o 48 (.b9 none 3 44 46),n (.st 3 48 47)]
def fu:=[m 49 4,o 50 (.c6 (k 0))]
def iv:=[o 51 (.bin .lss 50 49)]
def EQ:=[m 52 50,m 8 52]
def jf:=[m 53 7,m 54 8,o 55 (.a7 1 1),o 56 (.ld false 1 55),m 57 8,o 58 (.bin .add 57 (k 1)),o 59 (.call 205 [56,58]),o 60 (.call 199 [59]),
 o 61 (.b9 none 3 53 54),n (.st 3 61 60)]
def ko:=[o 62 (.bin .add 50 (k 1)),m 50 62]
def mf:=[o 63 (.a7 5 0),o 64 (.ld false 1 63),m 65 7,o 66 (.m4 66 1 [65]),o 67 (.app 67 1 24 64 66),o 68 (.a7 5 0),n (.st 1 68 67)]
def oy:=[o 69 (.a7 1 0),q 70 [9] (.ld false 1 69),q 71 [9] (.call 205 [70,(k 0)]),o 72 (.a7 1 1),q 73 [9] (.ld false 1 72),
 m 74 6,o 75 (.bin .add 74 (k 1)),q 76 [9] (.call 205 [73,75]),q 77 [9] (.call 99 [71,76]),
 o 9 (.alloc 9 [(.bool false),.nil,.nil]),n (.st 3 9 77)]
def qh:=[o 78 (.a7 5 2),q 79 [87] (.ld false 1 78),o 80 (.a7 1 0),o 81 (.ld false 1 80),m 82 6,o 83 (.bin .add 82 (k 1)),o 84 (.call 205 [81,83]),
 o 85 (.ld true 3 9),o 86 (.call 150 [84,85]),o 87 (.m4 87 3 [86]),o 88 (.app 88 3 56 79 87),o 89 (.a7 5 2),n (.st 1 89 88)]
def tk:=[o 90 (.bin .add 37 (k 1)),m 37 90]
def QH:=[o 91 (.ld true 6 5),n (.st 6 2 91),o 3 (.c6 (k 0))]
def l2:=(s (p iv) (s (i 51 .skip (x 2)) (s (b 3 (s (d EQ [51,52]) (d jf [8,53,54,55,56,57,58,59,60,61]))) (d ko [62]))))
def l1:=(s (p BZ) (s (i 38 .skip (x 0)) (s (b 1 (s (d B8 [38,39]) (s (d ct [40,41]) (s (s (d C3 [42]) (i 43 (d ft [43,44,45,46,47,48]) (s (d fu [43]) (b 2 (w l2))))) (s (d mf [7,49,50,51,63,64,65,66,67,68]) (s (e oy [69,70,71,72,73,74,75,76,77]) (e qh [6,9,78,79,80,81,82,83,84,85,86,87,88,89]))))))) (d tk [90]))))
def c:=(s (d r0 [0,3]) (s (s (d r1 [10,11]) (i 12 (s (d r2 [1,12,13]) .ret) .skip)) (s (e r3 [12,14,15,16,17,18,19,20]) (s (s (d r4 [21]) (i 22 (s (d r5 [1,4,22,23]) .ret) .skip)) (s (d r6 [22,24,25,26,27,28,29]) (s (s (d r7 [30]) (i 31 (e r8 [31,32,33,34,35]) .skip)) (s (s (d r9 [31]) (b 0 (w l1))) (s (d QH [1,4,5,36,37,38,91]) .ret))))))))
end SR
def SR:AFn:=⟨1,SR.c,[.cell 2 true 6,.tmp 3],false⟩
structure al (L:Lib):Prop extends yg L where
 XU:L 197=some F.XU
 QT:L 198=some F.QT
 ZM:L 199=some F.ZM
 ZI:L 200=some F.ZI
 aI:L 201=some F.aI
 aU:L 204=some F.aU
 aR:L 205=some F.aR
 aY:L 206=some F.aY
 SR:L 207=some F.SR
end Go.e9.F

namespace Go.e9.F
open C
namespace ZK
def r0:=[o 1 (.box 1 0),o 2 (.alloc 2 [(.bool false),.nil,.nil])]
def r1:=[o 3 (.a7 1 0),o 4 (.a7 3 1),o 5 (.ld false 1 4),o 6 (.build [(.bool false),.nil] [(1,1,5)]),o 7 (.a7 1 2),o 8 (.ld false 1 7),
 o 9 (.build [(.bool false),.nil,.nil] [(0,2,6),(2,1,8)]),o 10 (.call 95 [9]),n (.st 3 2 10)]
def c:=(s (d r0 [0]) (s (d r1 [1,3,4,5,6,7,8,9,10]) .ret))
end ZK
def ZK:AFn:=⟨1,ZK.c,[.cell 2 true 3],false⟩
structure ga (L:Lib):Prop extends al L where
 ZK:L 256=some F.ZK
end Go.e9.F

namespace Go.e9.F
open C
namespace ZC
def r0:=[o 1 (.box 1 0),o 2 (.alloc 2 [(.bool false),.nil,.nil])]
def r1:=[o 3 (.ld true 3 1),o 4 (.call 95 [3]),o 5 (.ry 4 2 1 false),o 6 (.build [(.bool false),.nil] [(1,1,5)]),o 7 (.m4 7 1 [(.c (.int .u32 (1)))]),
 o 8 (.build [(.bool false),.nil,.nil] [(0,2,6),(2,1,7)]),n (.st 3 2 8)]
def c:=(s (d r0 [0]) (s (d r1 [1,3,4,5,6,7,8]) .ret))
end ZC
def ZC:AFn:=⟨1,ZC.c,[.cell 2 true 3],false⟩
namespace ZA
def r0:=[o 2 (.alloc 2 [(.bool false),.nil,.nil])]
def r1:=[o 10 (.call 96 [(k 1)]),o 3 (.alloc 3 [(.bool false),.nil,.nil]),n (.st 3 3 10)]
def r2:=[m 11 0,o 12 (.len 11),o 13 (.c6 (k 0))]
def r3:=[o 14 (.bin .lss 13 12)]
def r4:=[o 15 (.b9 none 1 11 13),o 16 (.ld false 1 15),m 5 16]
def r5:=[m 17 5,o 18 (.len 17),o 19 (.c6 (k 0))]
def r6:=[o 20 (.bin .lss 19 18)]
def r7:=[o 21 (.b9 none 3 17 19),o 22 (.ld true 3 21),o 7 (.alloc 7 [(.bool false),.nil,.nil]),n (.st 3 7 22)]
def r8:=[q 24 [8] (.ld true 3 3),q 25 [8] (.ld true 3 7),q 26 [8] (.call 294 [25]),q 27 [8] (.call 100 [24,26]),m 23 27,
 o 28 (.ext 23 0),o 29 (.ext 23 1),o 8 (.alloc 8 [(.bool false),.nil,.nil]),n (.st 3 8 28),m 9 29]
def r9:=[o 30 (.ld true 3 3),o 31 (.ld true 3 8),o 32 (.call 294 [31]),o 33 (.call 99 [30,32]),n (.st 3 3 33)]
def BZ:=[o 34 (.bin .add 19 (k 1)),m 19 34]
def B8:=[o 35 (.bin .add 13 (k 1)),m 13 35]
def ct:=[o 36 (.ld true 3 3),n (.st 3 2 36)]
def l2:=(s (p r6) (s (i 20 .skip (x 2)) (s (b 3 (s (d r7 [20,21,22]) (s (e r8 [7,9,23,24,25,26,27,28,29]) (e r9 [8,30,31,32,33])))) (d BZ [34]))))
def l1:=(s (p r3) (s (i 14 .skip (x 0)) (s (b 1 (s (d r4 [14,15,16]) (s (d r5 [5]) (b 2 (w l2))))) (d B8 [17,18,19,20,35]))))
def c:=(s (p r0) (s (d r1 [10]) (s (s (d r2 [0]) (b 0 (w l1))) (s (d ct [3,11,12,13,14,36]) .ret))))
end ZA
def ZA:AFn:=⟨1,ZA.c,[.cell 2 true 3],false⟩
namespace ZG
def r0:=[o 3 (.box 3 1),o 4 (.c6 (.c .nil))]
def r1:=[m 7 0,o 8 (.len 7),o 9 (.mk 9 3 56 [(.bool false),.nil,.nil] 8 8),m 5 9]
def r2:=[m 10 0,o 11 (.len 10),o 12 (.c6 (k 0))]
def r3:=[o 13 (.bin .lss 12 11)]
def r4:=[m 14 12,m 6 14]
def r5:=[m 15 5,m 16 6,m 17 0,m 18 6,o 19 (.b9 none 3 17 18),o 20 (.ld true 3 19),o 21 (.ld true 3 3),o 22 (.call 99 [20,21]),o 23 (.b9 none 3 15 16),
 n (.st 3 23 22)]
def r6:=[o 24 (.bin .add 12 (k 1)),m 12 24]
def r7:=[m 25 5,m 4 25]
def l1:=(s (p r3) (s (i 13 .skip (x 0)) (s (b 1 (s (d r4 [13,14]) (e r5 [6,15,16,17,18,19,20,21,22,23]))) (d r6 [24]))))
def c:=(s (d r0 [1,4]) (s (d r1 [7,8,9]) (s (s (d r2 [10]) (b 0 (w l1))) (s (d r7 [0,3,5,11,12,13,25]) .ret))))
end ZG
def ZG:AFn:=⟨2,ZG.c,[.tmp 4],false⟩
namespace ZD
def r0:=[o 4 (.alloc 4 [(.bool false),.nil,.nil])]
def r1:=[o 7 (.call 96 [(k 0)]),o 5 (.alloc 5 [(.bool false),.nil,.nil]),n (.st 3 5 7)]
def r2:=[m 8 0,o 9 (.len 8),o 10 (.c6 (k 0))]
def r3:=[o 11 (.bin .lss 10 9)]
def r4:=[m 12 10,m 6 12]
def r5:=[m 13 0,m 14 6,o 15 (.b9 none 3 13 14),o 16 (.ld true 3 15),o 17 (.call 97 [16]),o 18 (.bin .neq 17 (k 0)),m 19 18,g 20 19 true (.c6 1),
 g 21 19 true (.c6 6),g 22 19 true (.b9 none 3 20 21),g 23 19 true (.ld true 3 22),g 24 19 true (.call 97 [23]),g 25 19 true (.bin .neq 24 (k 0)),
 o 26 (.pick 19 25 (.c (.bool false)))]
def r6:=[o 27 (.ld true 3 5),m 28 0,m 29 6,o 30 (.b9 none 3 28 29),o 31 (.ld true 3 30),m 32 1,m 33 6,o 34 (.b9 none 3 32 33),o 35 (.ld true 3 34),
 o 36 (.call 99 [31,35]),o 37 (.call 98 [27,36]),n (.st 3 5 37)]
def r7:=[o 38 (.bin .add 10 (k 1)),m 10 38]
def r8:=[o 39 (.ld true 3 5),n (.st 3 4 39)]
def l1:=(s (p r3) (s (i 11 .skip (x 0)) (s (b 1 (s (d r4 [11,12]) (s (d r5 [13,14,15,16,17,18,19,20,21,22,23,24,25]) (i 26 (e r6 [6,26,27,28,29,30,31,32,33,34,35,36,37]) .skip)))) (d r7 [6,26,38]))))
def c:=(s (p r0) (s (d r1 [7]) (s (s (d r2 [8]) (b 0 (w l1))) (s (d r8 [0,1,5,9,10,11,39]) .ret))))
end ZD
def ZD:AFn:=⟨2,ZD.c,[.cell 4 true 3],false⟩
namespace ZE
def r0:=[o 2 (.c6 (.c .nil))]
def r1:=[m 10 0,o 11 (.len 10),m 3 11]
def r2:=[m 12 3,o 13 (.mk 13 1 24 [.nil] 12 12),m 4 13]
def r3:=[m 14 3,o 15 (.c6 (k 0))]
def r4:=[o 16 (.bin .lss 15 14)]
def r5:=[m 17 15,m 5 17]
def r6:=[m 18 4,m 19 5,m 20 3,o 21 (.mk 21 3 56 [(.bool false),.nil,.nil] 20 20),o 22 (.b9 none 1 18 19),n (.st 1 22 21)]
def r7:=[o 23 (.bin .add 15 (k 1)),m 15 23]
def r8:=[m 24 3,o 25 (.mk 25 3 56 [(.bool false),.nil,.nil] 24 24),m 6 25]
def r9:=[m 26 3,o 27 (.c6 (k 0))]
def BZ:=[o 28 (.bin .lss 27 26)]
def B8:=[m 29 27,m 7 29]
def ct:=[m 30 3,o 31 (.c6 (k 0))]
def C3:=[o 32 (.bin .lss 31 30)]
def ft:=[m 33 31,m 8 33]
def fu:=[m 34 6,m 35 8,m 36 0,m 37 8,o 38 (.b9 none 1 36 37),o 39 (.ld false 1 38),m 40 7,o 41 (.b9 none 3 39 40),o 42 (.ld true 3 41),
 o 43 (.b9 none 3 34 35),n (.st 3 43 42)]
def iv:=[o 44 (.bin .add 31 (k 1)),m 31 44]
def EQ:=[m 45 3,o 46 (.c6 (k 0))]
def jf:=[o 47 (.bin .lss 46 45)]
def ko:=[m 48 46,m 9 48]
def mf:=[m 49 4,m 50 9,o 51 (.b9 none 1 49 50),o 52 (.ld false 1 51),m 53 7,m 54 0,m 55 9,o 56 (.b9 none 1 54 55),o 57 (.ld false 1 56),m 58 6,
 o 59 (.call 297 [57,58]),o 60 (.b9 none 3 52 53),n (.st 3 60 59)]
def oy:=[o 61 (.bin .add 46 (k 1)),m 46 61]
def qh:=[o 62 (.bin .add 27 (k 1)),m 27 62]
def tk:=[m 63 4,m 2 63]
def l1:=(s (p r4) (s (i 16 .skip (x 0)) (s (b 1 (s (d r5 [16,17]) (d r6 [5,18,19,20,21,22]))) (d r7 [23]))))
def l3:=(s (p C3) (s (i 32 .skip (x 4)) (s (b 5 (s (d ft [32,33]) (d fu [8,34,35,36,37,38,39,40,41,42,43]))) (d iv [44]))))
def l4:=(s (p jf) (s (i 47 .skip (x 6)) (s (b 7 (s (d ko [47,48]) (e mf [9,49,50,51,52,53,54,55,56,57,58,59,60]))) (d oy [61]))))
def l2:=(s (p BZ) (s (i 28 .skip (x 2)) (s (b 3 (s (d B8 [28,29]) (s (s (p ct) (b 4 (w l3))) (s (d EQ [30,31,32]) (b 6 (w l4)))))) (d qh [7,45,46,47,62]))))
def c:=(s (d r0 [2]) (s (d r1 [10,11]) (s (d r2 [12,13]) (s (s (p r3) (b 0 (w l1))) (s (d r8 [14,15,16,24,25]) (s (s (p r9) (b 2 (w l2))) (s (d tk [0,3,4,6,26,27,28,63]) .ret)))))))
end ZE
def ZE:AFn:=⟨1,ZE.c,[.tmp 2],false⟩
namespace ZH
def r0:=[o 2 (.alloc 2 [(.bool false),.nil,.nil])]
def r1:=[o 6 (.call 96 [(k 0)]),o 3 (.alloc 3 [(.bool false),.nil,.nil]),n (.st 3 3 6)]
def r2:=[m 7 0,o 8 (.len 7),o 9 (.c6 (k 0))]
def r3:=[o 10 (.bin .lss 9 8)]
def r4:=[o 11 (.b9 none 3 7 9),o 12 (.ld true 3 11),o 5 (.alloc 5 [(.bool false),.nil,.nil]),n (.st 3 5 12)]
def r5:=[o 13 (.ld true 3 3),o 14 (.ld true 3 5),o 15 (.call 256 [14]),o 16 (.call 98 [13,15]),n (.st 3 3 16)]
def r6:=[o 17 (.bin .add 9 (k 1)),m 9 17]
def r7:=[o 18 (.ld true 3 3),n (.st 3 2 18)]
def l1:=(s (p r3) (s (i 10 .skip (x 0)) (s (b 1 (s (d r4 [10,11,12]) (e r5 [5,13,14,15,16]))) (d r6 [17]))))
def c:=(s (p r0) (s (d r1 [6]) (s (s (d r2 [0]) (b 0 (w l1))) (s (d r7 [3,7,8,9,10,18]) .ret))))
end ZH
def ZH:AFn:=⟨1,ZH.c,[.cell 2 true 3],false⟩
namespace ZB
def r0:=[o 3 (.box 3 1),o 4 (.c6 (.c (.bool false)))]
def r1:=[m 8 0,o 9 (.len 8),o 10 (.c6 (k 0))]
def r2:=[o 11 (.bin .lss 10 9)]
def r3:=[o 12 (.b9 none 1 8 10),o 13 (.ld false 1 12),m 6 13]
def r4:=[m 14 6,o 15 (.call 300 [14]),o 7 (.alloc 7 [(.bool false),.nil,.nil]),n (.st 3 7 15)]
def r5:=[o 16 (.ld true 3 7),o 17 (.ld true 3 7),o 18 (.call 98 [16,17]),o 19 (.ld true 3 3),o 20 (.call 198 [18,19]),o 21 (.bin .gtr 20 (k 0))]
def r6:=[o 4 (.c6 (.c (.bool false)))]
def r7:=[o 22 (.bin .add 10 (k 1)),m 10 22]
def r8:=[o 4 (.c6 (.c (.bool true)))]
def l1:=(s (p r2) (s (i 11 .skip (x 0)) (s (b 1 (s (d r3 [11,12,13]) (s (d r4 [6,14,15]) (s (e r5 [7,16,17,18,19,20]) (i 21 (s (d r6 [3,8,9,10,21]) .ret) .skip))))) (d r7 [21,22]))))
def c:=(s (d r0 [1,4]) (s (s (d r1 [0]) (b 0 (w l1))) (s (d r8 [3,8,9,10,11]) .ret)))
end ZB
def ZB:AFn:=⟨2,ZB.c,[.tmp 4],false⟩
namespace ZF
def r0:=[o 2 (.alloc 2 [.nil,(.bool false),.nil,.nil,z,(.bool false),.nil,.nil]),o 3 (.c6 (k 0))]
def r1:=[m 9 0,o 10 (.call 295 [9]),o 11 (.call 96 [(k 1)]),
 o 12 (.build [.nil,(.bool false),.nil,.nil,z,(.bool false),.nil,.nil] [(1,3,10),(4,1,(k 1)),(5,3,11)]),
 o 4 (.alloc 4 [.nil,(.bool false),.nil,.nil,z,(.bool false),.nil,.nil]),n (.st 8 4 12)]
def r2:=[m 13 0,o 14 (.len 13),o 15 (.c6 (k 0))]
def r3:=[o 16 (.bin .lss 15 14)]
def r4:=[o 17 (.b9 none 1 13 15),o 18 (.ld false 1 17),m 6 18]
def r5:=[o 19 (.a7 4 0),q 20 [25] (.ld false 1 19),m 21 6,o 22 (.a7 4 1),o 23 (.ld true 3 22),o 24 (.call 296 [21,23]),o 25 (.m4 25 1 [24]),
 o 26 (.app 26 1 24 20 25),o 27 (.a7 4 0),n (.st 1 27 26)]
def r6:=[o 28 (.bin .add 15 (k 1)),m 15 28]
def r7:=[o 29 (.a7 4 0),q 30 [8] (.ld false 1 29),o 31 (.a7 4 1),q 32 [8] (.ld true 3 31),o 8 (.alloc 8 [(.bool false),.nil,.nil]),
 m 7 30,n (.st 3 8 32)]
def r8:=[m 33 7,o 34 (.ld true 3 8),o 35 (.call 302 [33,34]),o 36 (.un .not 35)]
def r9:=[o 37 (.a7 4 4),o 38 (.ld false 1 37),o 39 (.bin .eql 38 (k 64))]
def BZ:=[o 40 (.build [.nil,(.bool false),.nil,.nil,z,(.bool false),.nil,.nil] []),n (.st 8 2 40),o 3 (.c6 (k 14))]
def B8:=[m 41 7,o 42 (.call 299 [41]),o 43 (.ld true 3 8),o 44 (.ld true 3 8),o 45 (.call 99 [43,44]),m 7 42,n (.st 3 8 45)]
def ct:=[o 46 (.a7 4 4),o 47 (.ld false 1 46),o 48 (.bin .mul 47 (k 2)),o 49 (.a7 4 4),n (.st 1 49 48)]
def C3:=[o 50 (.a7 4 4),o 51 (.ld false 1 50),o 52 (.bin .mul (k 2) 51),o 53 (.bin .sub 52 (k 1)),o 54 (.c6 (k 0))]
def ft:=[o 55 (.bin .lss 54 53)]
def fu:=[o 56 (.a7 4 5),o 57 (.ld true 3 56),o 58 (.a7 4 1),o 59 (.ld true 3 58),o 60 (.call 99 [57,59]),o 61 (.a7 4 5),n (.st 3 61 60)]
def iv:=[o 62 (.bin .add 54 (k 1)),m 54 62]
def EQ:=[o 63 (.ld true 8 4),n (.st 8 2 63),o 3 (.c6 (k 0))]
def l1:=(s (p r3) (s (i 16 .skip (x 0)) (s (b 1 (s (d r4 [16,17,18]) (e r5 [6,19,20,21,22,23,24,25,26,27]))) (d r6 [28]))))
def l2:=(s (s (d r8 [33,34,35]) (i 36 .skip (x 2))) (b 3 (s (s (d r9 [36,37,38]) (i 39 (s (d BZ [4,7,8,39,40]) .ret) .skip)) (s (e B8 [39,41,42,43,44,45]) (d ct [46,47,48,49])))))
def l3:=(s (p ft) (s (i 55 .skip (x 4)) (s (b 5 (d fu [55,56,57,58,59,60,61])) (d iv [62]))))
def c:=(s (d r0 [3]) (s (d r1 [9,10,11,12]) (s (s (d r2 [0]) (b 0 (w l1))) (s (e r7 [13,14,15,16,29,30,31,32]) (s (b 2 (w l2)) (s (s (d C3 [7,8,36,50,51,52]) (b 4 (w l3))) (s (d EQ [4,53,54,55,63]) .ret)))))))
end ZF
def ZF:AFn:=⟨1,ZF.c,[.cell 2 true 8,.tmp 3],false⟩
namespace Y9
def r0:=[o 2 (.c6 (k 0)),o 3 (.c6 (k 0))]
def r1:=[m 8 0,o 9 (.len 8),o 10 (.bin .gtr 9 (k 16))]
def r2:=[o 2 (.c6 (k 0)),o 3 (.c6 (k 2))]
def r3:=[m 11 0,o 12 (.len 11),o 13 (.c6 (k 0))]
def r4:=[o 14 (.bin .lss 13 12)]
def r5:=[o 15 (.b9 none 1 11 13),o 16 (.ld false 1 15),m 5 16]
def r6:=[m 17 5,o 18 (.len 17),m 19 0,o 20 (.len 19),o 21 (.bin .neq 18 20)]
def r7:=[o 2 (.c6 (k 0)),o 3 (.c6 (k 2))]
def r8:=[o 22 (.bin .add 13 (k 1)),m 13 22]
def r9:=[m 24 0,o 25 (.call 303 [24]),m 23 25,o 26 (.ext 23 0),o 27 (.ext 23 1),o 6 (.alloc 6 [.nil,(.bool false),.nil,.nil,z,(.bool false),.nil,.nil]),
 n (.st 8 6 26),m 7 27]
def BZ:=[o 28 (.a7 6 4),o 29 (.ld false 1 28),m 30 7,m 2 29,m 3 30]
def l1:=(s (p r4) (s (i 14 .skip (x 0)) (s (b 1 (s (d r5 [14,15,16]) (s (d r6 [5,17,18,19,20]) (i 21 (s (d r7 [0,11,12,13,21]) .ret) .skip)))) (d r8 [21,22]))))
def c:=(s (d r0 [2,3]) (s (s (d r1 [8,9]) (i 10 (s (d r2 [0,10]) .ret) .skip)) (s (s (d r3 [10]) (b 0 (w l1))) (s (d r9 [0,11,12,13,14,23,24,25,26,27]) (s (d BZ [6,7,28,29,30]) .ret)))))
end Y9
def Y9:AFn:=⟨1,Y9.c,[.tmp 2,.tmp 3],false⟩
structure cu (L:Lib):Prop extends ga L where
 ZC:L 294=some F.ZC
 ZA:L 295=some F.ZA
 ZG:L 296=some F.ZG
 ZD:L 297=some F.ZD
 ZE:L 299=some F.ZE
 ZH:L 300=some F.ZH
 ZB:L 302=some F.ZB
 ZF:L 303=some F.ZF
 Y9:L 306=some F.Y9
end Go.e9.F

namespace Go.e9.F
open C
structure yf (L:Lib):Prop extends al L where
end Go.e9.F

namespace Go.e9.F
open C
namespace aO
def r0:=[o 4 (.c6 (.c .nil))]
def r1:=[m 5 1,o 6 (.bin .lss 5 (k 0))]
def r2:=[o 7 (.bad),n (.bad)]
def r3:=[m 8 1,m 9 0,o 10 (.ju 9),m 11 0,o 12 (.len 11),o 13 (.bin .sub 10 12),o 14 (.bin .sub 8 13),m 1 14]
def r4:=[m 15 1,o 16 (.bin .gtr 15 (k 0))]
def r5:=[m 17 0,m 18 0,o 19 (.ju 18),o 20 (.ke 3 17 none (some 19)),m 21 1,o 22 (.ru 227022 3 56 20 21),m 23 0,o 24 (.len 23),
 o 25 (.ke 3 22 none (some 24)),m 0 25]
def r6:=[m 26 0,m 4 26]
def c:=(s (d r0 [4]) (s (s (d r1 [5]) (i 6 (d r2 [6,7]) .skip)) (s (s (d r3 [6,8,9,10,11,12,13,14]) (s (d r4 [15]) (i 16 (d r5 [1,16,17,18,19,20,21,22,23,24,25]) .skip))) (s (d r6 [0,1,16,26]) .ret))))
end aO
def aO:AFn:=⟨2,aO.c,[.tmp 4],false⟩
namespace aN
def r0:=[o 2 (.c6 (.c .nil))]
def r1:=[o 3 (.c6 (k 0))]
def r2:=[m 9 0,o 10 (.len 9),o 11 (.c6 (k 0))]
def r3:=[o 12 (.bin .lss 11 10)]
def r4:=[o 13 (.b9 none 1 9 11),o 14 (.ld false 1 13),m 5 14]
def r5:=[m 15 3,m 16 5,o 17 (.len 16),o 18 (.bin .add 15 17),m 3 18]
def r6:=[m 19 3,o 20 (.bin .lss 19 (k 0))]
def r7:=[o 21 (.bad),n (.bad)]
def r8:=[o 22 (.bin .add 11 (k 1)),m 11 22]
def r9:=[m 23 3,o 24 (.m7 227 [(.c .nil),23]),m 6 24]
def BZ:=[m 25 0,o 26 (.len 25),o 27 (.c6 (k 0))]
def B8:=[o 28 (.bin .lss 27 26)]
def ct:=[o 29 (.b9 none 1 25 27),o 30 (.ld false 1 29),m 8 30]
def C3:=[m 31 6,m 32 8,o 33 (.app 33 3 56 31 32),m 6 33]
def ft:=[o 34 (.bin .add 27 (k 1)),m 27 34]
def fu:=[m 35 6,m 2 35]
def l1:=(s (p r3) (s (i 12 .skip (x 0)) (s (b 1 (s (d r4 [12,13,14]) (s (d r5 [5,15,16,17,18]) (s (d r6 [19]) (i 20 (d r7 [20,21]) .skip))))) (d r8 [20,22]))))
def l2:=(s (p B8) (s (i 28 .skip (x 2)) (s (b 3 (s (d ct [28,29,30]) (d C3 [8,31,32,33]))) (d ft [34]))))
def c:=(s (d r0 [2]) (s (p r1) (s (s (p r2) (b 0 (w l1))) (s (d r9 [3,9,10,11,12,23,24]) (s (s (d BZ [0]) (b 2 (w l2))) (s (d fu [6,25,26,27,28,35]) .ret))))))
end aN
def aN:AFn:=⟨1,aN.c,[.tmp 2],false⟩
namespace X7
def r0:=[o 2 (.c6 (.c (.bool false)))]
def r1:=[m 6 0,o 7 (.len 6),o 8 (.bin .lss 7 (k 1)),m 9 8,g 10 9 false (.c6 0),g 11 9 false (.len 10),g 12 9 false (.bin .gtr 11 (k 52)),
 o 13 (.pick 9 (.c (.bool true)) 12)]
def r2:=[o 2 (.c6 (.c (.bool false)))]
def r3:=[m 14 0,o 15 (.b9 none 1 14 (k 0)),o 16 (.ld false 1 15),o 17 (.len 16),m 3 17]
def r4:=[m 18 0,o 19 (.len 18),o 20 (.c6 (k 0))]
def r5:=[o 21 (.bin .lss 20 19)]
def r6:=[o 22 (.b9 none 1 18 20),o 23 (.ld false 1 22),m 5 23]
def r7:=[m 24 5,o 25 (.len 24),m 26 3,o 27 (.bin .neq 25 26)]
def r8:=[o 2 (.c6 (.c (.bool false)))]
def r9:=[o 28 (.bin .add 20 (k 1)),m 20 28]
def BZ:=[m 29 3,o 30 (.bin .geq 29 (k 1)),m 31 30,g 32 31 true (.c6 3),g 33 31 true (.bin .leq 32 (k 52)),o 34 (.pick 31 33 (.c (.bool false))),m 2 34]
def l1:=(s (p r5) (s (i 21 .skip (x 0)) (s (b 1 (s (d r6 [21,22,23]) (s (d r7 [5,24,25,26]) (i 27 (s (d r8 [3,18,19,20,27]) .ret) .skip)))) (d r9 [27,28]))))
def c:=(s (d r0 [2]) (s (s (d r1 [6,7,8,9,10,11,12]) (i 13 (s (d r2 [0,13]) .ret) .skip)) (s (d r3 [13,14,15,16,17]) (s (s (d r4 [0]) (b 0 (w l1))) (s (d BZ [3,18,19,20,21,29,30,31,32,33,34]) .ret)))))
end X7
def X7:AFn:=⟨1,X7.c,[.tmp 2],false⟩
namespace X3
def r0:=[o 2 (.c6 (.c .nil)),o 3 (.c6 (k 0))]
def r1:=[m 7 0,o 8 (.bin .lss 7 (k 1)),m 9 8,g 10 9 false (.c6 0),g 11 9 false (.bin .gtr 10 (k 52)),o 12 (.pick 9 (.c (.bool true)) 11)]
def r2:=[o 2 (.c6 (.c .nil)),o 3 (.c6 (k 1))]
def r3:=[m 13 0,o 14 (.mk 14 1 24 [.nil] 13 13),m 4 14]
def r4:=[m 15 4,o 16 (.len 15),o 17 (.c6 (k 0))]
def r5:=[o 18 (.bin .lss 17 16)]
def r6:=[m 19 17,m 5 19]
def r7:=[m 20 4,m 21 5,m 22 0,o 23 (.mk 23 3 56 [(.bool false),.nil,.nil] 22 22),o 24 (.b9 none 1 20 21),n (.st 1 24 23)]
def r8:=[m 25 4,m 26 5,o 27 (.b9 none 1 25 26),o 28 (.ld false 1 27),o 29 (.len 28),o 30 (.c6 (k 0))]
def r9:=[o 31 (.bin .lss 30 29)]
def BZ:=[m 32 30,m 6 32]
def B8:=[m 33 4,m 34 5,o 35 (.b9 none 1 33 34),o 36 (.ld false 1 35),m 37 6,o 38 (.call 96 [(k 0)]),o 39 (.b9 none 3 36 37),n (.st 3 39 38)]
def ct:=[o 40 (.bin .add 30 (k 1)),m 30 40]
def C3:=[m 41 4,m 42 5,o 43 (.b9 none 1 41 42),o 44 (.ld false 1 43),m 45 5,o 46 (.call 96 [(k 1)]),o 47 (.b9 none 3 44 45),n (.st 3 47 46)]
def ft:=[o 48 (.bin .add 17 (k 1)),m 17 48]
def fu:=[m 49 4,m 2 49,o 3 (.c6 (k 0))]
def l2:=(s (p r9) (s (i 31 .skip (x 2)) (s (b 3 (s (d BZ [31,32]) (e B8 [6,33,34,35,36,37,38,39]))) (d ct [40]))))
def l1:=(s (p r5) (s (i 18 .skip (x 0)) (s (b 1 (s (d r6 [18,19]) (s (d r7 [20,21,22,23,24]) (s (s (d r8 [25,26,27,28]) (b 2 (w l2))) (e C3 [5,29,30,31,41,42,43,44,45,46,47]))))) (d ft [48]))))
def c:=(s (d r0 [2,3]) (s (s (d r1 [7,8,9,10,11]) (i 12 (s (d r2 [0,12]) .ret) .skip)) (s (d r3 [12,13,14]) (s (s (d r4 [15]) (b 0 (w l1))) (s (d fu [0,4,16,17,18,49]) .ret)))))
end X3
def X3:AFn:=⟨1,X3.c,[.tmp 2,.tmp 3],false⟩
namespace HN
def r0:=[o 2 (.c6 (.c .nil)),o 3 (.c6 (.c .nil))]
def r1:=[m 14 0,o 15 (.len 14),o 16 (.mk 231016 1 24 [.nil] 15 15),m 17 0,o 18 (.len 17),o 19 (.mk 231019 3 56 [(.bool false),.nil,.nil] 18 18),m 4 16,m 5 19]
def r2:=[m 20 0,o 21 (.len 20),o 22 (.c6 (k 0))]
def r3:=[o 23 (.bin .lss 22 21)]
def r4:=[m 24 22,o 25 (.b9 none 1 20 22),o 26 (.ld false 1 25),m 6 24,m 7 26]
def r5:=[o 27 (.call 96 [(k 1)]),o 8 (.alloc 231008 [(.bool false),.nil,.nil]),n (.st 3 8 27)]
def r6:=[m 28 7,o 29 (.len 28),o 30 (.c6 (k 0))]
def r7:=[o 31 (.bin .lss 30 29)]
def r8:=[o 32 (.b9 none 3 28 30),o 33 (.ld true 3 32),o 10 (.alloc 231010 [(.bool false),.nil,.nil]),n (.st 3 10 33)]
def r9:=[o 34 (.ld true 3 8),o 35 (.ld true 3 10),o 36 (.call 99 [34,35]),o 11 (.alloc 231011 [(.bool false),.nil,.nil]),n (.st 3 11 36)]
def BZ:=[o 37 (.ld true 3 8),o 38 (.a7 11 2),o 39 (.ld false 1 38),o 40 (.build [(.bool false),.nil] [(1,1,39)]),o 41 (.m4 231041 1 [(.c (.int .u32 (1)))]),
 o 42 (.build [(.bool false),.nil,.nil] [(0,2,40),(2,1,41)]),o 43 (.call 99 [37,42]),n (.st 3 8 43)]
def B8:=[o 44 (.bin .add 30 (k 1)),m 30 44]
def ct:=[m 45 4,m 46 6,m 47 7,o 48 (.len 47),o 49 (.mk 231049 3 56 [(.bool false),.nil,.nil] 48 48),o 50 (.b9 none 1 45 46),n (.st 1 50 49)]
def C3:=[m 51 7,o 52 (.len 51),o 53 (.c6 (k 0))]
def ft:=[o 54 (.bin .lss 53 52)]
def fu:=[m 55 53,o 56 (.b9 none 3 51 53),o 57 (.ld true 3 56),o 13 (.alloc 231013 [(.bool false),.nil,.nil]),m 12 55,n (.st 3 13 57)]
def iv:=[m 58 4,m 59 6,o 60 (.b9 none 1 58 59),o 61 (.ld false 1 60),m 62 12,o 63 (.ld true 3 13),o 64 (.ld true 3 8),o 65 (.call 99 [63,64]),
 o 66 (.b9 none 3 61 62),n (.st 3 66 65)]
def EQ:=[o 67 (.bin .add 53 (k 1)),m 53 67]
def jf:=[m 68 5,m 69 6,o 70 (.ld true 3 8),o 71 (.b9 none 3 68 69),n (.st 3 71 70)]
def ko:=[o 72 (.bin .add 22 (k 1)),m 22 72]
def mf:=[m 73 4,m 74 5,m 2 73,m 3 74]
def l2:=(s (p r7) (s (i 31 .skip (x 2)) (s (b 3 (s (d r8 [31,32,33]) (s (d r9 [10,34,35,36]) (d BZ [11,37,38,39,40,41,42,43])))) (d B8 [44]))))
def l3:=(s (p ft) (s (i 54 .skip (x 4)) (s (b 5 (s (d fu [54,55,56,57]) (e iv [12,13,58,59,60,61,62,63,64,65,66]))) (d EQ [67]))))
def l1:=(s (p r3) (s (i 23 .skip (x 0)) (s (b 1 (s (d r4 [23,24,25,26]) (s (d r5 [27]) (s (s (p r6) (b 2 (w l2))) (s (d ct [28,29,30,31,45,46,47,48,49,50]) (s (s (d C3 [7]) (b 4 (w l3))) (d jf [6,8,51,52,53,54,68,69,70,71]))))))) (d ko [72]))))
def c:=(s (d r0 [2,3]) (s (e r1 [14,15,16,17,18,19]) (s (s (d r2 [0]) (b 0 (w l1))) (s (d mf [4,5,20,21,22,23,73,74]) .ret))))
end HN
def HN:AFn:=⟨1,HN.c,[.tmp 2,.tmp 3],false⟩
namespace YA
def r0:=[o 7 (.box 900007 3)]
def r1:=[m 12 1,m 13 2,o 14 (.b9 none 3 12 13),q 15 [900008,900009] (.ld true 3 14),m 16 0,m 17 2,o 18 (.b9 none 3 16 17),
 q 19 [900008,900009,900008] (.ld true 3 18),o 8 (.alloc 900008 [(.bool false),.nil,.nil]),o 9 (.alloc 900009 [(.bool false),.nil,.nil]),
 n (.rm 900008 3 8 15),n (.st 3 9 19)]
def r2:=[m 20 2,m 10 20]
def r3:=[m 21 10,m 22 0,o 23 (.len 22),o 24 (.bin .lss 21 23)]
def r5:=[m 27 0,m 28 10,o 29 (.b9 none 3 27 28),q 30 [900011] (.ld true 3 29),q 31 [900011] (.ld true 3 8),
 q 32 [900011] (.call 99 [30,31]),m 33 1,m 34 10,o 35 (.b9 none 3 33 34),q 36 [900011] (.ld true 3 35),
 q 37 [900011] (.ld true 3 9),q 38 [900011] (.call 99 [36,37]),q 39 [900011] (.call 150 [32,38]),
 o 11 (.alloc 900011 [(.bool false),.nil,.nil]),n (.st 3 11 39)]
def r6:=[m 41 0,m 42 10,o 43 (.ld true 3 11),o 44 (.ld true 3 7),o 45 (.call 100 [43,44]),m 40 45,o 46 (.ext 40 0),o 47 (.ext 40 1),o 48 (.b9 none 3 41 42),
 n (.st 3 48 46)]
def r4:=[m 25 10,o 26 (.bin .add 25 (k 1)),m 10 26]
def l1:=(s (s (d r3 [21,22,23]) (i 24 .skip (x 0))) (s (b 1 (s (e r5 [24,27,28,29,30,31,32,33,34,35,36,37,38,39]) (d r6 [11,40,41,42,43,44,45,46,47,48]))) (d r4 [25,26])))
def c:=(s (d r0 [3]) (s (e r1 [12,13,14,15,16,17,18,19]) (s (d r2 [2,20]) (b 0 (w l1)))))
end YA
def YA:AFn:=⟨4,YA.c,[],false⟩
namespace U2
def r0:=[o 4 (.c6 (k 0)),o 5 (.alloc 233005 [(.bool false),.nil,.nil]),o 6 (.c6 (.c (.bool false)))]
def r1:=[o 7 (.c6 (k 0)),o 8 (.c6 (k 0)),o 9 (.c6 (.c (.bool false)))]
def r2:=[o 13 (.call 96 [(k 1)]),o 10 (.alloc 233010 [(.bool false),.nil,.nil]),n (.st 3 10 13)]
def r3:=[m 14 7,m 15 0,o 16 (.len 15),o 17 (.bin .lss 14 16)]
def r4:=[m 18 8,m 19 1,o 20 (.bin .lss 18 19)]
def r6:=[m 23 7,m 11 23]
def r7:=[m 24 11,m 25 0,o 26 (.len 25),o 27 (.bin .lss 24 26)]
def r9:=[m 30 0,m 31 11,o 32 (.b9 none 1 30 31),o 33 (.ld false 1 32),m 34 8,o 35 (.b9 none 3 33 34),o 36 (.ld true 3 35),o 37 (.call 97 [36]),
 o 38 (.bin .neq 37 (k 0))]
def BZ:=[m 39 11,m 40 7,o 41 (.bin .neq 39 40)]
def B8:=[m 42 0,m 43 11,m 44 0,m 45 7,m 46 0,m 47 7,o 48 (.b9 none 1 46 47),o 49 (.ld false 1 48),m 50 0,m 51 11,o 52 (.b9 none 1 50 51),
 o 53 (.ld false 1 52),o 54 (.b9 none 1 42 43),n (.st 1 54 49),o 55 (.b9 none 1 44 45),n (.st 1 55 53)]
def ct:=[m 56 9,o 57 (.un .not 56),m 9 57]
def r8:=[m 28 11,o 29 (.bin .add 28 (k 1)),m 11 29]
def r5:=[m 21 8,o 22 (.bin .add 21 (k 1)),m 8 22]
def C3:=[m 58 8,m 59 1,o 60 (.bin .geq 58 59)]
def ft:=[m 61 7,o 62 (.bin .add 61 (k 1)),m 12 62]
def fu:=[m 63 12,m 64 0,o 65 (.len 64),o 66 (.bin .lss 63 65)]
def EQ:=[m 69 0,m 70 12,o 71 (.b9 none 1 69 70),o 72 (.ld false 1 71),m 73 0,m 74 7,o 75 (.b9 none 1 73 74),o 76 (.ld false 1 75),m 77 8,
 o 78 (.ld true 3 10),o 79 (.m7 900 [72,76,77,78])]
def iv:=[m 67 12,o 68 (.bin .add 67 (k 1)),m 12 68]
def jf:=[m 80 0,m 81 7,o 82 (.b9 none 1 80 81),o 83 (.ld false 1 82),m 84 8,o 85 (.b9 none 3 83 84),o 86 (.ld true 3 85),n (.st 3 10 86)]
def ko:=[m 87 7,o 88 (.bin .add 87 (k 1)),m 7 88]
def mf:=[m 89 8,o 90 (.bin .add 89 (k 1)),m 8 90]
def oy:=[m 91 7,o 92 (.ld true 3 10),m 93 9,m 4 91,n (.st 3 5 92),m 6 93]
def l3:=(s (s (d r7 [24,25,26]) (i 27 .skip (x 4))) (s (b 5 (s (d r9 [27,30,31,32,33,34,35,36,37]) (i 38 (s (s (d BZ [38,39,40]) (i 41 (s (e B8 [11,41,42,43,44,45,46,47,48,49,50,51,52,53,54,55]) (d ct [56,57])) .skip)) (x 2)) .skip))) (d r8 [28,29,38])))
def l2:=(s (s (d r4 [17,18,19]) (i 20 .skip (x 2))) (s (b 3 (s (d r6 [20,23]) (b 4 (w l3)))) (d r5 [11,21,22,27])))
def l4:=(s (s (d fu [63,64,65]) (i 66 .skip (x 6))) (s (b 7 (e EQ [66,69,70,71,72,73,74,75,76,77,78,79])) (d iv [67,68])))
def l1:=(s (s (d r3 [14,15,16]) (i 17 .skip (x 0))) (b 1 (.scope (s .skip (s (b 2 (w l2)) (s (s (d C3 [11,20,41,58,59]) (i 60 (x 0) .skip)) (s (s (d ft [60,61,62]) (b 6 (w l4))) (s (d jf [12,66,80,81,82,83,84,85,86]) (s (d ko [87,88]) (d mf [89,90]))))))))))
def c:=(s (d r0 [4,6]) (s (p r1) (s (d r2 [13]) (s (b 0 (w l1)) (s (e oy [0,1,7,8,9,10,17,60,91,92,93]) .ret)))))
end U2
def U2:AFn:=⟨2,U2.c,[.tmp 4,.cell 5 true 3,.tmp 6],false⟩
namespace X8
def r0:=[o 5 (.box 5 2),o 6 (.c6 (.c .nil))]
def r1:=[m 11 0,o 12 (.len 11),o 13 (.mk 13 3 56 [(.bool false),.nil,.nil] 12 12),m 7 13]
def r2:=[m 14 0,o 15 (.len 14),o 16 (.bin .sub 15 (k 1)),m 8 16]
def r3:=[m 17 8,o 18 (.bin .geq 17 (k 0))]
def r5:=[m 21 0,m 22 8,o 23 (.b9 none 1 21 22),q 24 [9] (.ld false 1 23),m 25 1,o 26 (.b9 none 3 24 25),q 27 [9] (.ld true 3 26),
 q 28 [9] (.ld true 3 5),q 29 [9] (.call 99 [27,28]),o 9 (.alloc 9 [(.bool false),.nil,.nil]),n (.st 3 9 29)]
def r6:=[m 30 8,o 31 (.bin .add 30 (k 1)),m 10 31]
def r7:=[m 32 10,m 33 0,o 34 (.len 33),o 35 (.bin .lss 32 34)]
def r9:=[o 38 (.ld true 3 9),m 39 0,m 40 8,o 41 (.b9 none 1 39 40),o 42 (.ld false 1 41),m 43 10,o 44 (.b9 none 3 42 43),o 45 (.ld true 3 44),m 46 7,
 m 47 10,o 48 (.b9 none 3 46 47),o 49 (.ld true 3 48),o 50 (.call 99 [45,49]),o 51 (.call 150 [38,50]),n (.st 3 9 51)]
def r8:=[m 36 10,o 37 (.bin .add 36 (k 1)),m 10 37]
def BZ:=[m 53 7,m 54 8,o 55 (.ld true 3 9),m 56 0,m 57 8,o 58 (.b9 none 1 56 57),o 59 (.ld false 1 58),m 60 8,o 61 (.b9 none 3 59 60),o 62 (.ld true 3 61),
 o 63 (.call 100 [55,62]),m 52 63,o 64 (.ext 52 0),o 65 (.ext 52 1),o 66 (.b9 none 3 53 54),n (.st 3 66 64)]
def r4:=[m 19 8,o 20 (.bin .sub 19 (k 1)),m 8 20]
def B8:=[m 67 7,m 6 67]
def l2:=(s (s (d r7 [32,33,34]) (i 35 .skip (x 2))) (s (b 3 (e r9 [35,38,39,40,41,42,43,44,45,46,47,48,49,50,51])) (d r8 [36,37])))
def l1:=(s (s (d r3 [17]) (i 18 .skip (x 0))) (s (b 1 (s (e r5 [18,21,22,23,24,25,26,27,28,29]) (s (s (d r6 [30,31]) (b 2 (w l2))) (e BZ [9,10,35,52,53,54,55,56,57,58,59,60,61,62,63,64,65,66])))) (d r4 [19,20])))
def c:=(s (d r0 [2,6]) (s (d r1 [11,12,13]) (s (s (d r2 [14,15,16]) (b 0 (w l1))) (s (d B8 [0,1,5,7,8,18,67]) .ret))))
end X8
def X8:AFn:=⟨3,X8.c,[.tmp 6],false⟩
namespace X9
def r0:=[o 4 (.c6 (.c .nil)),o 5 (.c6 (k 0))]
def r1:=[m 19 0,o 20 (.len 19),m 6 20]
def r2:=[m 21 6,o 22 (.mk 22 1 24 [.nil] 21 21),m 7 22]
def r3:=[m 23 7,o 24 (.len 23),o 25 (.c6 (k 0))]
def r4:=[o 26 (.bin .lss 25 24)]
def r5:=[m 27 25,m 8 27]
def r6:=[m 28 7,m 29 8,m 30 0,m 31 8,o 32 (.b9 none 1 30 31),o 33 (.ld false 1 32),m 34 1,m 35 8,o 36 (.b9 none 1 34 35),o 37 (.ld false 1 36),
 o 38 (.m4 38 1 [33,37]),o 39 (.call 228 [38]),o 40 (.b9 none 1 28 29),n (.st 1 40 39)]
def r7:=[o 41 (.bin .add 25 (k 1)),m 25 41]
def r8:=[m 43 7,o 44 (.m7 231 [43]),m 42 44,o 45 (.ext 42 0),o 46 (.ext 42 1),m 9 45,m 10 46]
def r9:=[m 48 9,m 49 6,o 50 (.m7 233 [48,49]),m 47 50,o 51 (.ext 47 0),o 52 (.ext 47 1),o 53 (.ext 47 2),o 12 (.alloc 12 [(.bool false),.nil,.nil]),
 m 11 51,n (.st 3 12 52),m 13 53]
def BZ:=[m 54 11,m 55 6,o 56 (.bin .lss 54 55)]
def B8:=[o 4 (.c6 (.c .nil)),o 5 (.c6 (k 11))]
def ct:=[m 57 6,o 58 (.mk 58 1 24 [.nil] 57 57),m 14 58]
def C3:=[m 59 14,o 60 (.len 59),o 61 (.c6 (k 0))]
def ft:=[o 62 (.bin .lss 61 60)]
def fu:=[m 63 61,m 15 63]
def iv:=[m 64 14,m 65 15,m 66 1,m 67 15,o 68 (.b9 none 1 66 67),o 69 (.ld false 1 68),o 70 (.len 69),o 71 (.mk 71 3 56 [(.bool false),.nil,.nil] 70 70),
 o 72 (.b9 none 1 64 65),n (.st 1 72 71)]
def EQ:=[o 73 (.bin .add 61 (k 1)),m 61 73]
def jf:=[m 74 1,o 75 (.b9 none 1 74 (k 0)),o 76 (.ld false 1 75),o 77 (.len 76),o 78 (.c6 (k 0))]
def ko:=[o 79 (.bin .lss 78 77)]
def mf:=[m 80 78,m 16 80]
def oy:=[m 81 9,m 82 6,m 83 16,o 84 (.bin .add 82 83),o 85 (.ld true 3 12),o 86 (.call 234 [81,84,85]),o 87 (.len 86),o 88 (.c6 (k 0))]
def qh:=[o 89 (.bin .lss 88 87)]
def tk:=[m 90 88,o 91 (.b9 none 3 86 88),o 92 (.ld true 3 91),o 18 (.alloc 18 [(.bool false),.nil,.nil]),m 17 90,n (.st 3 18 92)]
def QH:=[m 94 14,m 95 17,o 96 (.b9 none 1 94 95),o 97 (.ld false 1 96),m 98 16,o 99 (.ld true 3 18),o 100 (.ld true 3 12),o 101 (.call 100 [99,100]),m 93 101,
 o 102 (.ext 93 0),o 103 (.ext 93 1),o 104 (.b9 none 3 97 98),n (.st 3 104 102)]
def dJ:=[o 105 (.bin .add 88 (k 1)),m 88 105]
def iI:=[o 106 (.bin .add 78 (k 1)),m 78 106]
def iJ:=[m 107 14,m 4 107,o 5 (.c6 (k 0))]
def l1:=(s (p r4) (s (i 26 .skip (x 0)) (s (b 1 (s (d r5 [26,27]) (e r6 [8,28,29,30,31,32,33,34,35,36,37,38,39,40]))) (d r7 [41]))))
def l2:=(s (p ft) (s (i 62 .skip (x 2)) (s (b 3 (s (d fu [62,63]) (d iv [15,64,65,66,67,68,69,70,71,72]))) (d EQ [73]))))
def l4:=(s (p qh) (s (i 89 .skip (x 6)) (s (b 7 (s (d tk [89,90,91,92]) (e QH [17,18,93,94,95,96,97,98,99,100,101,102,103,104]))) (d dJ [105]))))
def l3:=(s (p ko) (s (i 79 .skip (x 4)) (s (b 5 (s (d mf [79,80]) (s (d oy [81,82,83,84,85]) (b 6 (w l4))))) (d iI [16,86,87,88,89,106]))))
def c:=(s (d r0 [4,5]) (s (d r1 [19,20]) (s (d r2 [21,22]) (s (s (d r3 [23]) (b 0 (w l1))) (s (d r8 [0,7,10,24,25,26,42,43,44,45,46]) (s (d r9 [13,47,48,49,50,51,52,53]) (s (s (d BZ [11,54,55]) (i 56 (s (d B8 [1,6,9,12,56]) .ret) .skip)) (s (d ct [56,57,58]) (s (s (d C3 [59]) (b 2 (w l2))) (s (s (d jf [1,60,61,62,74,75,76]) (b 4 (w l3))) (s (d iJ [6,9,12,14,77,78,79,107]) .ret)))))))))))
end X9
def X9:AFn:=⟨2,X9.c,[.tmp 4,.tmp 5],false⟩
namespace X5
def r0:=[o 4 (.c6 (.c .nil)),o 5 (.c6 (k 0))]
def r1:=[m 13 0,o 14 (.call 229 [13]),o 15 (.un .not 14)]
def r2:=[o 4 (.c6 (.c .nil)),o 5 (.c6 (k 2))]
def r3:=[m 16 0,o 17 (.b9 none 1 16 (k 0)),o 18 (.ld false 1 17),o 19 (.len 18),m 20 0,o 21 (.len 20),o 22 (.bin .neq 19 21),m 23 22,g 24 23 false (.c6 1),
 g 25 23 false (.len 24),g 26 23 false (.c6 0),g 27 23 false (.len 26),g 28 23 false (.bin .neq 25 27),o 29 (.pick 23 (.c (.bool true)) 28)]
def r4:=[o 4 (.c6 (.c .nil)),o 5 (.c6 (k 1))]
def r5:=[m 30 1,o 31 (.len 30),o 32 (.mk 32 1 24 [.nil] 31 31),m 6 32]
def r6:=[m 33 1,o 34 (.len 33),o 35 (.c6 (k 0))]
def r7:=[o 36 (.bin .lss 35 34)]
def r8:=[m 37 35,o 38 (.b9 none 3 33 35),o 39 (.ld true 3 38),o 8 (.alloc 8 [(.bool false),.nil,.nil]),m 7 37,n (.st 3 8 39)]
def r9:=[m 40 6,m 41 7,o 42 (.ld true 3 8),o 43 (.m4 43 3 [42]),o 44 (.b9 none 1 40 41),n (.st 1 44 43)]
def BZ:=[o 45 (.bin .add 35 (k 1)),m 35 45]
def B8:=[m 47 0,m 48 6,o 49 (.call 235 [47,48]),m 46 49,o 50 (.ext 46 0),o 51 (.ext 46 1),m 9 50,m 10 51]
def ct:=[m 52 10,o 53 (.bin .neq 52 (k 0))]
def C3:=[m 54 10,o 4 (.c6 (.c .nil)),m 5 54]
def ft:=[m 55 9,o 56 (.len 55),o 57 (.mk 57 3 56 [(.bool false),.nil,.nil] 56 56),m 11 57]
def fu:=[m 58 9,o 59 (.len 58),o 60 (.c6 (k 0))]
def iv:=[o 61 (.bin .lss 60 59)]
def EQ:=[m 62 60,m 12 62]
def jf:=[m 63 11,m 64 12,m 65 9,m 66 12,o 67 (.b9 none 1 65 66),o 68 (.ld false 1 67),o 69 (.b9 none 3 68 (k 0)),o 70 (.ld true 3 69),
 o 71 (.b9 none 3 63 64),n (.st 3 71 70)]
def ko:=[o 72 (.bin .add 60 (k 1)),m 60 72]
def mf:=[m 73 11,m 4 73,o 5 (.c6 (k 0))]
def l1:=(s (p r7) (s (i 36 .skip (x 0)) (s (b 1 (s (d r8 [36,37,38,39]) (d r9 [7,8,40,41,42,43,44]))) (d BZ [45]))))
def l2:=(s (p iv) (s (i 61 .skip (x 2)) (s (b 3 (s (d EQ [61,62]) (d jf [12,63,64,65,66,67,68,69,70,71]))) (d ko [72]))))
def c:=(s (d r0 [4,5]) (s (s (d r1 [13,14]) (i 15 (s (d r2 [0,1,15]) .ret) .skip)) (s (s (d r3 [15,16,17,18,19,20,21,22,23,24,25,26,27,28]) (i 29 (s (d r4 [0,1,29]) .ret) .skip)) (s (d r5 [29,30,31,32]) (s (s (d r6 [1]) (b 0 (w l1))) (s (d B8 [0,6,33,34,35,36,46,47,48,49,50,51]) (s (s (d ct [52]) (i 53 (s (d C3 [9,10,53,54]) .ret) .skip)) (s (d ft [10,53,55,56,57]) (s (s (d fu [58]) (b 2 (w l2))) (s (d mf [9,11,59,60,61,73]) .ret))))))))))
end X5
def X5:AFn:=⟨2,X5.c,[.tmp 4,.tmp 5],false⟩
namespace X4
def r0:=[o 2 (.c6 (.c .nil)),o 3 (.c6 (k 0))]
def r1:=[m 6 0,o 7 (.call 229 [6]),o 8 (.un .not 7)]
def r2:=[o 2 (.c6 (.c .nil)),o 3 (.c6 (k 2))]
def r3:=[m 9 0,o 10 (.b9 none 1 9 (k 0)),o 11 (.ld false 1 10),o 12 (.len 11),m 13 0,o 14 (.len 13),o 15 (.bin .neq 12 14)]
def r4:=[o 2 (.c6 (.c .nil)),o 3 (.c6 (k 1))]
def r5:=[m 17 0,o 18 (.len 17),o 19 (.call 230 [18]),m 16 19,o 20 (.ext 16 0),o 21 (.ext 16 1),m 4 20,m 5 21]
def r6:=[m 22 0,m 23 4,o 24 (.call 235 [22,23]),o 25 (.ext 24 0),o 26 (.ext 24 1),m 2 25,m 3 26]
def c:=(s (d r0 [2,3]) (s (s (d r1 [6,7]) (i 8 (s (d r2 [0,8]) .ret) .skip)) (s (s (d r3 [8,9,10,11,12,13,14]) (i 15 (s (d r4 [0,15]) .ret) .skip)) (s (d r5 [5,15,16,17,18,19,20,21]) (s (d r6 [0,4,22,23,24,25,26]) .ret)))))
end X4
def X4:AFn:=⟨1,X4.c,[.tmp 2,.tmp 3],false⟩
structure u5 (L:Lib):Prop extends cp L,al L where
 aO:L 227=some F.aO
 aN:L 228=some F.aN
 X7:L 229=some F.X7
 X3:L 230=some F.X3
 HN:L 231=some F.HN
 YA:L 900=some F.YA
 U2:L 233=some F.U2
 X8:L 234=some F.X8
 X9:L 235=some F.X9
 X5:L 237=some F.X5
 X4:L 238=some F.X4
end Go.e9.F

namespace Go.e9.F
open C
structure va (L:Lib):Prop extends ic L where
structure oz (L:Lib):Prop extends va L where
end Go.e9.F

namespace Go.e9.F
open C
namespace bF
def r0:=[o 4 (.c6 (k 0))]
def r1:=[m 5 1,o 6 (.bin .lss 5 (k 1))]
def r2:=[o 4 (.c6 (k 0))]
def r3:=[m 7 0,m 8 1,o 9 (.bin .rem 7 8),m 0 9]
def r4:=[m 10 0,o 11 (.bin .lss 10 (k 0))]
def r5:=[m 12 0,m 13 1,o 14 (.bin .add 12 13),m 0 14]
def r6:=[m 15 0,m 4 15]
def c:=(s (d r0 [4]) (s (s (d r1 [5]) (i 6 (s (d r2 [0,1,6]) .ret) .skip)) (s (d r3 [6,7,8,9]) (s (s (d r4 [10]) (i 11 (d r5 [1,11,12,13,14]) .skip)) (s (d r6 [0,1,11,15]) .ret)))))
end bF
def bF:AFn:=⟨2,bF.c,[.tmp 4],false⟩
namespace bD
def r0:=[o 4 (.c6 (k 0))]
def r1:=[m 5 1,o 6 (.bin .geq 5 (k 0)),m 7 6,g 8 7 true (.c6 1),g 9 7 true (.c6 0),g 10 7 true (.len 9),g 11 7 true (.bin .lss 8 10),
 o 12 (.pick 7 11 (.c (.bool false)))]
def r2:=[m 13 0,m 14 1,o 15 (.b9 none 1 13 14),o 16 (.ld false 1 15),m 4 16]
def r3:=[o 4 (.c6 (k 0))]
def c:=(s (d r0 [4]) (s (s (d r1 [5,6,7,8,9,10,11]) (i 12 (s (d r2 [0,1,12,13,14,15,16]) .ret) .skip)) (s (d r3 [0,1,12]) .ret)))
end bD
def bD:AFn:=⟨2,bD.c,[.tmp 4],false⟩
structure bh (L:Lib):Prop extends mu L where
 bF:L 34=some F.bF
 bD:L 35=some F.bD
end Go.e9.F

namespace Go.e9.F
open C
namespace TD
def r0:=[o 4 (.c6 (.c .nil))]
def r1:=[o 5 (.ff 5 3)]
def r2:=[o 6 (.c6 (k 0))]
def r3:=[m 8 6,m 9 1,o 10 (.bin .lss 8 9)]
def r5:=[m 13 0,m 14 6,o 15 (.call 35 [13,14]),o 16 (.call 34 [15,(k 2000)]),m 7 16]
def r6:=[m 17 5,m 18 7,o 19 (.bin .rem 18 (k 25)),o 20 (.bin .sub 19 (k 12)),m 21 7,o 22 (.bin .quo 21 (k 25)),o 23 (.bin .rem 22 (k 8)),
 o 24 (.bin .add (k 1) 23),o 25 (.call 125 [20,24]),o 26 (.m4 26 3 [25]),o 27 (.app 27 3 56 17 26),m 5 27]
def r4:=[m 11 6,o 12 (.bin .add 11 (k 1)),m 6 12]
def r7:=[m 28 5,m 4 28]
def l1:=(s (s (d r3 [8,9]) (i 10 .skip (x 0))) (s (b 1 (s (d r5 [10,13,14,15,16]) (d r6 [7,17,18,19,20,21,22,23,24,25,26,27]))) (d r4 [11,12])))
def c:=(s (d r0 [4]) (s (p r1) (s (s (p r2) (b 0 (w l1))) (s (d r7 [0,1,5,6,10,28]) .ret))))
end TD
def TD:AFn:=⟨2,TD.c,[.tmp 4],false⟩
structure dm (L:Lib):Prop extends bh L,l7 L where
 TD:L 141=some F.TD
end Go.e9.F

namespace Go.e9.F
open C
namespace IV
def r0:=[o 4 (.alloc 316004 [.nil,.nil,.nil,(.bool false),.nil,.nil])]
def r1:=[m 8 0,m 9 1,m 10 1,o 11 (.bin .mul 9 10),m 12 1,o 13 (.bin .mul (k 2) 12),o 14 (.bin .add 11 13),o 15 (.bin .add 14 (k 1)),
 o 16 (.bm 316016 141 [8,15]),m 5 16]
def r2:=[m 17 5,m 18 1,m 19 1,o 20 (.bin .mul 18 19),m 21 1,m 22 1,o 23 (.bin .mul 21 22),m 24 1,o 25 (.bin .add 23 24),o 26 (.ke 3 17 (some 20) (some 25)),
 m 27 5,m 28 1,m 29 1,o 30 (.bin .mul 28 29),m 31 1,o 32 (.bin .add 30 31),m 33 1,m 34 1,o 35 (.bin .mul 33 34),m 36 1,o 37 (.bin .mul (k 2) 36),
 o 38 (.bin .add 35 37),o 39 (.ke 3 27 (some 32) (some 38)),m 40 5,m 41 1,m 42 1,o 43 (.bin .mul 41 42),m 44 1,o 45 (.bin .mul (k 2) 44),
 o 46 (.bin .add 43 45),o 47 (.b9 none 3 40 46),q 48 [316006] (.ld true 3 47),
 o 49 (.build [.nil,.nil,.nil,(.bool false),.nil,.nil] [(1,1,26),(2,1,39),(3,3,48)]),
 o 6 (.alloc 316006 [.nil,.nil,.nil,(.bool false),.nil,.nil]),n (.st 6 6 49)]
def r3:=[o 7 (.c6 (k 0))]
def r4:=[m 50 7,m 51 1,o 52 (.bin .lss 50 51)]
def r6:=[o 55 (.a7 6 0),q 56 [316067] (.ld false 1 55),m 57 5,m 58 7,m 59 1,o 60 (.bin .mul 58 59),m 61 7,m 62 1,o 63 (.bin .mul 61 62),m 64 1,
 o 65 (.bin .add 63 64),o 66 (.ke 3 57 (some 60) (some 65)),o 67 (.m4 316067 1 [66]),o 68 (.app 800068 1 24 56 67),o 69 (.a7 6 0),n (.st 1 69 68)]
def r5:=[m 53 7,o 54 (.bin .add 53 (k 1)),m 7 54]
def r7:=[o 70 (.ld true 6 6),n (.st 6 4 70)]
def l1:=(s (s (d r4 [50,51]) (i 52 .skip (x 0))) (s (b 1 (e r6 [52,55,56,57,58,59,60,61,62,63,64,65,66,67,68,69])) (d r5 [53,54])))
def c:=(s (p r0) (s (d r1 [0,8,9,10,11,12,13,14,15,16]) (s (e r2 [17,18,19,20,21,22,23,24,25,26,27,28,29,30,31,32,33,34,35,36,37,38,39,40,41,42,43,44,45,46,47,48,49]) (s (s (p r3) (b 0 (w l1))) (s (d r7 [1,5,6,7,52,70]) .ret)))))
end IV
def IV:AFn:=⟨2,IV.c,[.cell 4 true 6],false⟩
namespace IU
def r0:=[o 4 (.alloc 4 [.nil,.nil,.nil,(.bool false),.nil,.nil])]
def r1:=[m 8 0,m 9 1,o 10 (.m7 316 [8,9]),o 5 (.alloc 5 [.nil,.nil,.nil,(.bool false),.nil,.nil]),n (.st 6 5 10)]
def r2:=[o 6 (.c6 (k 0))]
def r3:=[m 11 6,m 12 1,o 13 (.bin .lss 11 12)]
def r5:=[o 7 (.c6 (k 0))]
def r6:=[m 16 7,m 17 1,o 18 (.bin .lss 16 17)]
def r8:=[o 21 (.a7 5 0),o 22 (.ld false 1 21),m 23 6,o 24 (.b9 none 1 22 23),o 25 (.ld false 1 24),m 26 7,o 27 (.a7 5 0),o 28 (.ld false 1 27),m 29 6,
 o 30 (.b9 none 1 28 29),o 31 (.ld false 1 30),m 32 7,o 33 (.b9 none 3 31 32),o 34 (.ld true 3 33),m 35 1,o 36 (.bin .mul (k 16) 35),
 o 37 (.call 125 [(k 1),36]),o 38 (.call 128 [34,37]),o 39 (.b9 none 3 25 26),n (.st 3 39 38)]
def r7:=[m 19 7,o 20 (.bin .add 19 (k 1)),m 7 20]
def r4:=[m 14 6,o 15 (.bin .add 14 (k 1)),m 6 15]
def r9:=[o 40 (.ld true 6 5),n (.st 6 4 40)]
def l2:=(s (s (d r6 [16,17]) (i 18 .skip (x 2))) (s (b 3 (e r8 [18,21,22,23,24,25,26,27,28,29,30,31,32,33,34,35,36,37,38,39])) (d r7 [19,20])))
def l1:=(s (s (d r3 [11,12]) (i 13 .skip (x 0))) (s (b 1 (s (d r5 [13]) (b 2 (w l2)))) (d r4 [7,14,15,18])))
def c:=(s (p r0) (s (d r1 [0,8,9,10]) (s (s (p r2) (b 0 (w l1))) (s (d r9 [1,5,6,13,40]) .ret))))
end IU
def IU:AFn:=⟨2,IU.c,[.cell 4 true 6],false⟩
structure ia (L:Lib):Prop extends dm L where
 IV:L 316=some F.IV
 IU:L 317=some F.IU
end Go.e9.F

namespace Go.e9.F
open C
structure vb (L:Lib):Prop extends tn L,bh L where
structure mr (L:Lib):Prop extends vb L where
structure uw (L:Lib):Prop extends mr L,cp L,mw L,pd L where
structure uy (L:Lib):Prop extends pc L,cp L,ic L where
structure ux (L:Lib):Prop extends al L,uy L,uw L,dm L where
structure uz (L:Lib):Prop extends ga L where
end Go.e9.F

namespace Go.e9.F
open C
namespace bE
def r0:=[o 4 (.c6 (.c .nil))]
def r1:=[m 8 0,m 9 1,m 10 1,o 11 (.bin .mul 9 10),o 12 (.call 141 [8,11]),m 5 12]
def r2:=[o 6 (.ff 6 1)]
def r3:=[o 7 (.c6 (k 0))]
def r4:=[m 13 7,m 14 1,o 15 (.bin .lss 13 14)]
def r6:=[m 18 6,m 19 5,m 20 7,m 21 1,o 22 (.bin .mul 20 21),m 23 7,m 24 1,o 25 (.bin .mul 23 24),m 26 1,o 27 (.bin .add 25 26),
 o 28 (.ke 3 19 (some 22) (some 27)),o 29 (.m4 29 1 [28]),o 30 (.app 30 1 24 18 29),m 6 30]
def r5:=[m 16 7,o 17 (.bin .add 16 (k 1)),m 7 17]
def r7:=[m 31 6,m 4 31]
def l1:=(s (s (d r4 [13,14]) (i 15 .skip (x 0))) (s (b 1 (d r6 [15,18,19,20,21,22,23,24,25,26,27,28,29,30])) (d r5 [16,17])))
def c:=(s (d r0 [4]) (s (d r1 [0,8,9,10,11,12]) (s (p r2) (s (s (p r3) (b 0 (w l1))) (s (d r7 [1,5,6,7,15,31]) .ret)))))
end bE
def bE:AFn:=⟨2,bE.c,[.tmp 4],false⟩
structure mj (L:Lib):Prop extends dm L where
 bE:L 280=some F.bE
end Go.e9.F

namespace Go.e9.F
open C
namespace aX
def r0:=[o 1 (.box 1 0),o 2 (.c6 (.c (.bool false)))]
def r1:=[o 3 (.ld true 6 1),o 4 (.call 130 [3]),m 5 4,g 6 5 true (.a7 1 0),g 7 5 true (.ld false 1 6),g 8 5 true (.len 7),g 9 5 true (.bin .leq 8 (k 16)),
 o 10 (.pick 5 9 (.c (.bool false))),m 2 10]
def c:=(s (d r0 [0,2]) (s (d r1 [1,3,4,5,6,7,8,9,10]) .ret))
end aX
def aX:AFn:=⟨1,aX.c,[.tmp 2],false⟩
structure mi (L:Lib):Prop extends uz L,oz L,mj L,al L,ux L where
 aX:L 281=some F.aX
end Go.e9.F

namespace Go.e9.F
open C
namespace YB
def r0:=[o 2 (.c6 (.c .nil))]
def r1:=[m 6 0,o 7 (.b9 none 1 6 (k 0)),o 8 (.ld false 1 7),o 9 (.len 8),o 10 (.mk 10 1 24 [.nil] 9 9),m 3 10]
def r2:=[m 11 3,o 12 (.len 11),o 13 (.c6 (k 0))]
def r3:=[o 14 (.bin .lss 13 12)]
def r4:=[m 15 13,m 4 15]
def r5:=[m 16 0,o 17 (.len 16),o 18 (.c6 (k 0))]
def r6:=[o 19 (.bin .lss 18 17)]
def r7:=[m 20 18,m 5 20]
def r8:=[m 21 3,m 22 4,m 23 3,m 24 4,o 25 (.b9 none 1 23 24),q 26 [35] (.ld false 1 25),m 27 0,m 28 5,o 29 (.b9 none 1 27 28),
 o 30 (.ld false 1 29),m 31 4,o 32 (.b9 none 3 30 31),o 33 (.ld true 3 32),o 34 (.call 95 [33]),o 35 (.m4 35 3 [34]),o 36 (.app 36 3 56 26 35),
 o 37 (.b9 none 1 21 22),n (.st 1 37 36)]
def r9:=[o 38 (.bin .add 18 (k 1)),m 18 38]
def BZ:=[o 39 (.bin .add 13 (k 1)),m 13 39]
def B8:=[m 40 3,m 2 40]
def l2:=(s (p r6) (s (i 19 .skip (x 2)) (s (b 3 (s (d r7 [19,20]) (e r8 [5,21,22,23,24,25,26,27,28,29,30,31,32,33,34,35,36,37]))) (d r9 [38]))))
def l1:=(s (p r3) (s (i 14 .skip (x 0)) (s (b 1 (s (d r4 [14,15]) (s (d r5 [16]) (b 2 (w l2))))) (d BZ [4,17,18,19,39]))))
def c:=(s (d r0 [2]) (s (d r1 [6,7,8,9,10]) (s (s (d r2 [11]) (b 0 (w l1))) (s (d B8 [0,3,12,13,14,40]) .ret))))
end YB
def YB:AFn:=⟨1,YB.c,[.tmp 2],false⟩
namespace X6
def r0:=[o 4 (.c6 (.c .nil)),o 5 (.c6 (k 0))]
def r1:=[m 17 0,o 18 (.call 229 [17]),o 19 (.un .not 18),m 20 19,g 21 20 false (.c6 1),g 22 20 false (.call 229 [21]),g 23 20 false (.un .not 22),
 o 24 (.pick 20 (.c (.bool true)) 23)]
def r2:=[o 4 (.c6 (.c .nil)),o 5 (.c6 (k 2))]
def r3:=[m 25 0,o 26 (.b9 none 1 25 (k 0)),o 27 (.ld false 1 26),o 28 (.len 27),m 29 1,o 30 (.len 29),o 31 (.bin .neq 28 30)]
def r4:=[o 4 (.c6 (.c .nil)),o 5 (.c6 (k 1))]
def r5:=[m 33 0,o 34 (.m7 231 [33]),m 32 34,o 35 (.ext 32 0),o 36 (.ext 32 1),m 6 35,m 7 36]
def r6:=[m 38 1,o 39 (.call 246 [38]),o 40 (.m7 231 [39]),m 37 40,o 41 (.ext 37 0),o 42 (.ext 37 1),m 8 41,m 9 42]
def r7:=[m 43 6,o 44 (.len 43),o 45 (.mk 45 1 24 [.nil] 44 44),m 10 45]
def r8:=[m 46 6,o 47 (.len 46),o 48 (.c6 (k 0))]
def r9:=[o 49 (.bin .lss 48 47)]
def BZ:=[m 50 48,o 51 (.b9 none 1 46 48),o 52 (.ld false 1 51),m 11 50,m 12 52]
def B8:=[m 53 8,o 54 (.len 53),o 55 (.c6 (k 0))]
def ct:=[o 56 (.bin .lss 55 54)]
def C3:=[m 57 55,o 58 (.b9 none 1 53 55),o 59 (.ld false 1 58),m 13 57,m 14 59]
def ft:=[o 60 (.call 96 [(k 0)]),o 15 (.alloc 15 [(.bool false),.nil,.nil]),n (.st 3 15 60)]
def fu:=[m 61 12,o 62 (.len 61),o 63 (.c6 (k 0))]
def iv:=[o 64 (.bin .lss 63 62)]
def EQ:=[m 65 63,m 16 65]
def jf:=[o 66 (.ld true 3 15),m 67 12,m 68 16,o 69 (.b9 none 3 67 68),o 70 (.ld true 3 69),m 71 14,m 72 16,o 73 (.b9 none 3 71 72),o 74 (.ld true 3 73),
 o 75 (.call 99 [70,74]),o 76 (.call 98 [66,75]),n (.st 3 15 76)]
def ko:=[o 77 (.bin .add 63 (k 1)),m 63 77]
def mf:=[o 79 (.ld true 3 15),m 80 7,m 81 11,o 82 (.b9 none 3 80 81),o 83 (.ld true 3 82),m 84 9,m 85 13,o 86 (.b9 none 3 84 85),o 87 (.ld true 3 86),
 o 88 (.call 99 [83,87]),o 89 (.call 100 [79,88]),m 78 89,o 90 (.ext 78 0),o 91 (.ext 78 1),n (.st 3 15 90)]
def oy:=[m 92 10,m 93 11,m 94 10,m 95 11,o 96 (.b9 none 1 94 95),q 97 [99] (.ld false 1 96),o 98 (.ld true 3 15),o 99 (.m4 99 3 [98]),
 o 100 (.app 100 3 56 97 99),o 101 (.b9 none 1 92 93),n (.st 1 101 100)]
def qh:=[o 102 (.bin .add 55 (k 1)),m 55 102]
def tk:=[o 103 (.bin .add 48 (k 1)),m 48 103]
def QH:=[m 104 10,m 4 104,o 5 (.c6 (k 0))]
def l3:=(s (p iv) (s (i 64 .skip (x 4)) (s (b 5 (s (d EQ [64,65]) (e jf [16,66,67,68,69,70,71,72,73,74,75,76]))) (d ko [77]))))
def l2:=(s (p ct) (s (i 56 .skip (x 2)) (s (b 3 (s (d C3 [56,57,58,59]) (s (d ft [60]) (s (s (d fu [61]) (b 4 (w l3))) (s (e mf [13,14,62,63,64,78,79,80,81,82,83,84,85,86,87,88,89,90,91]) (e oy [15,92,93,94,95,96,97,98,99,100,101])))))) (d qh [102]))))
def l1:=(s (p r9) (s (i 49 .skip (x 0)) (s (b 1 (s (d BZ [49,50,51,52]) (s (p B8) (b 2 (w l2))))) (d tk [11,12,53,54,55,56,103]))))
def c:=(s (d r0 [4,5]) (s (s (d r1 [17,18,19,20,21,22,23]) (i 24 (s (d r2 [0,1,24]) .ret) .skip)) (s (s (d r3 [24,25,26,27,28,29,30]) (i 31 (s (d r4 [0,1,31]) .ret) .skip)) (s (d r5 [0,31,32,33,34,35,36]) (s (d r6 [1,37,38,39,40,41,42]) (s (d r7 [43,44,45]) (s (s (d r8 [6]) (b 0 (w l1))) (s (d QH [7,8,9,10,46,47,48,49,104]) .ret))))))))
end X6
def X6:AFn:=⟨2,X6.c,[.tmp 4,.tmp 5],false⟩
structure fi (L:Lib):Prop extends u5 L where
 YB:L 246=some F.YB
 X6:L 248=some F.X6
end Go.e9.F

namespace Go.e9.F
open C
def yU:Nat:=84
def rL:Nat:=148
namespace aQ
def r0:=[o 2 (.alloc 2 [(.bool false),.nil,.nil])]
def r1:=[m 3 0,o 4 (.b9 none 3 3 (k 0)),o 5 (.ld true 3 4),n (.st 3 2 5)]
def c:=(s (p r0) (s (d r1 [0,3,4,5]) .ret))
end aQ
def aQ:AFn:=⟨1,aQ.c,[.cell 2 true 3],false⟩
namespace aV
def r0:=[o 4 (.c6 (.c .nil))]
def r1:=[m 8 0,o 9 (.len 8),o 10 (.mk 288010 3 56 [(.bool false),.nil,.nil] 9 9),m 5 10]
def r2:=[m 11 0,o 12 (.len 11),o 13 (.c6 (k 0))]
def r3:=[o 14 (.bin .lss 13 12)]
def r4:=[m 15 13,o 16 (.b9 none 1 11 13),o 17 (.ld false 1 16),m 6 15,m 7 17]
def r5:=[m 18 5,m 19 6,m 20 1,m 21 7,o 22 (.y7 20 [21]),o 23 (.b9 none 3 18 19),n (.st 3 23 22)]
def r6:=[o 24 (.bin .add 13 (k 1)),m 13 24]
def r7:=[m 25 5,m 4 25]
def l1:=(s (p r3) (s (i 14 .skip (x 0)) (s (b 1 (s (d r4 [14,15,16,17]) (d r5 [6,7,18,19,20,21,22,23]))) (d r6 [24]))))
def c:=(s (d r0 [4]) (s (d r1 [8,9,10]) (s (s (d r2 [0]) (b 0 (w l1))) (s (d r7 [1,5,11,12,13,14,25]) .ret))))
end aV
def aV:AFn:=⟨2,aV.c,[.tmp 4],false⟩
namespace aT
def r0:=[o 1 (.box 289001 0),o 2 (.c6 (.c .nil))]
def r1:=[o 3 (.ld true 3 1),o 4 (.call 95 [3]),o 5 (.m4 289005 3 [4]),m 2 5]
def c:=(s (d r0 [0,2]) (s (d r1 [1,3,4,5]) .ret))
end aT
def aT:AFn:=⟨1,aT.c,[.tmp 2],false⟩
namespace aW
def r0:=[o 4 (.c6 (.c .nil))]
def r1:=[m 8 0,o 9 (.len 8),o 10 (.mk 290010 1 24 [.nil] 9 9),m 5 10]
def r2:=[m 11 0,o 12 (.len 11),o 13 (.c6 (k 0))]
def r3:=[o 14 (.bin .lss 13 12)]
def r4:=[m 15 13,o 16 (.b9 none 3 11 13),o 17 (.ld true 3 16),o 7 (.alloc 290007 [(.bool false),.nil,.nil]),m 6 15,n (.st 3 7 17)]
def r5:=[m 18 5,m 19 6,m 20 1,o 21 (.ld true 3 7),o 22 (.y7 20 [21]),o 23 (.b9 none 1 18 19),n (.st 1 23 22)]
def r6:=[o 24 (.bin .add 13 (k 1)),m 13 24]
def r7:=[m 25 5,m 4 25]
def l1:=(s (p r3) (s (i 14 .skip (x 0)) (s (b 1 (s (d r4 [14,15,16,17]) (d r5 [6,7,18,19,20,21,22,23]))) (d r6 [24]))))
def c:=(s (d r0 [4]) (s (d r1 [8,9,10]) (s (s (d r2 [0]) (b 0 (w l1))) (s (d r7 [1,5,11,12,13,14,25]) .ret))))
end aW
def aW:AFn:=⟨2,aW.c,[.tmp 4],false⟩
namespace aS
def r0:=[o 2 (.c6 (.c .nil))]
def r1:=[m 3 0,o 4 (.m7 290 [3,(.c (.fn false 289 rL []))]),m 2 4]
def c:=(s (d r0 [2]) (s (d r1 [0,3,4]) .ret))
end aS
def aS:AFn:=⟨1,aS.c,[.tmp 2],false⟩
namespace aP
def r0:=[o 2 (.box 2 0),o 4 (.alloc 4 [.nil,.nil,.nil,(.bool false),.nil,.nil]),o 5 (.c6 (k 0))]
def r1:=[o 20 (.ld true 6 2),o 21 (.call 281 [20]),o 22 (.un .not 21)]
def r2:=[o 23 (.build [.nil,.nil,.nil,(.bool false),.nil,.nil] []),n (.st 6 4 23),o 5 (.c6 (k 2))]
def r3:=[o 24 (.a7 2 0),o 25 (.ld false 1 24),o 26 (.len 25),m 6 26]
def r4:=[m 27 1,o 28 (.len 27),m 29 6,o 30 (.bin .neq 28 29)]
def r5:=[o 31 (.build [.nil,.nil,.nil,(.bool false),.nil,.nil] []),n (.st 6 4 31),o 5 (.c6 (k 1))]
def r6:=[m 32 1,o 33 (.len 32),o 34 (.c6 (k 0))]
def r7:=[o 35 (.bin .lss 34 33)]
def r8:=[o 36 (.b9 none 1 32 34),o 37 (.ld false 1 36),m 8 37]
def r9:=[m 38 8,o 39 (.len 38),m 40 6,o 41 (.bin .neq 39 40)]
def BZ:=[o 42 (.build [.nil,.nil,.nil,(.bool false),.nil,.nil] []),n (.st 6 4 42),o 5 (.c6 (k 1))]
def B8:=[o 43 (.bin .add 34 (k 1)),m 34 43]
def ct:=[m 44 6,o 45 (.bin .eql 44 (k 0))]
def C3:=[o 46 (.a7 2 3),o 47 (.ld true 3 46),o 48 (.call 95 [47]),o 49 (.build [.nil,.nil,.nil,(.bool false),.nil,.nil] [(3,3,48)]),n (.st 6 4 49),
 o 5 (.c6 (k 0))]
def ft:=[m 51 1,o 52 (.call 238 [51]),m 50 52,o 53 (.ext 50 0),o 54 (.ext 50 1),m 9 53,m 10 54]
def fu:=[m 55 10,o 56 (.bin .neq 55 (k 0))]
def iv:=[o 57 (.build [.nil,.nil,.nil,(.bool false),.nil,.nil] []),m 58 10,n (.st 6 4 57),m 5 58]
def EQ:=[m 60 1,o 61 (.a7 2 0),o 62 (.ld false 1 61),o 63 (.call 248 [60,62]),m 59 63,o 64 (.ext 59 0),o 65 (.ext 59 1),m 11 64,m 12 65]
def jf:=[m 67 11,m 68 9,o 69 (.call 248 [67,68]),m 66 69,o 70 (.ext 66 0),o 71 (.ext 66 1),m 13 70,m 14 71]
def ko:=[m 73 1,o 74 (.a7 2 1),o 75 (.ld false 1 74),o 76 (.call 291 [75]),o 77 (.call 248 [73,76]),m 72 77,o 78 (.ext 72 0),o 79 (.ext 72 1),m 15 78,
 m 16 79]
def mf:=[o 81 (.a7 2 2),o 82 (.ld false 1 81),o 83 (.m4 83 1 [82]),m 84 9,o 85 (.call 248 [83,84]),m 80 85,o 86 (.ext 80 0),o 87 (.ext 80 1),m 17 86,
 m 18 87]
def oy:=[m 88 15,o 89 (.m7 288 [88,(.c (.fn true 287 yU []))]),m 19 89]
def qh:=[m 90 13,m 91 19,m 92 17,o 93 (.b9 none 1 92 (k 0)),o 94 (.ld false 1 93),o 95 (.a7 2 3),o 96 (.ld true 3 95),o 97 (.call 95 [96]),
 o 98 (.build [.nil,.nil,.nil,(.bool false),.nil,.nil] [(0,1,90),(1,1,91),(2,1,94),(3,3,97)]),n (.st 6 4 98),o 5 (.c6 (k 0))]
def l1:=(s (p r7) (s (i 35 .skip (x 0)) (s (b 1 (s (d r8 [35,36,37]) (s (d r9 [8,38,39,40]) (i 41 (s (d BZ [1,2,6,32,33,34,41,42]) .ret) .skip)))) (d B8 [41,43]))))
def c:=(s (d r0 [0,5]) (s (s (d r1 [20,21]) (i 22 (s (d r2 [1,2,22,23]) .ret) .skip)) (s (d r3 [22,24,25,26]) (s (s (d r4 [27,28,29]) (i 30 (s (d r5 [1,2,6,30,31]) .ret) .skip)) (s (s (d r6 [30]) (b 0 (w l1))) (s (s (d ct [6,32,33,34,35,44]) (i 45 (s (d C3 [1,2,45,46,47,48,49]) .ret) .skip)) (s (d ft [45,50,51,52,53,54]) (s (s (d fu [55]) (i 56 (s (d iv [1,2,9,10,56,57,58]) .ret) .skip)) (s (d EQ [10,12,56,59,60,61,62,63,64,65]) (s (d jf [11,14,66,67,68,69,70,71]) (s (d ko [1,16,72,73,74,75,76,77,78,79]) (s (d mf [9,18,80,81,82,83,84,85,86,87]) (s (d oy [15,88,89]) (s (e qh [2,13,17,19,90,91,92,93,94,95,96,97,98]) .ret))))))))))))))
end aP
def aP:AFn:=⟨2,aP.c,[.cell 4 true 6,.tmp 5],false⟩
structure ig (L:Lib):Prop extends mi L,fi L where
 aQ:L 287=some F.aQ
 aV:L 288=some F.aV
 aT:L 289=some F.aT
 aW:L 290=some F.aW
 aS:L 291=some F.aS
 aP:L 292=some F.aP
end Go.e9.F

namespace Go.e9.F
open C
namespace Y3
def r0:=[o 1 (.box 1 0),o 2 (.c6 (.c .nil))]
def r1:=[o 3 (.ff 3 2)]
def r2:=[o 6 (.a7 1 0),o 7 (.ld false 1 6),o 8 (.len 7),o 9 (.c6 (k 0))]
def r3:=[o 10 (.bin .lss 9 8)]
def r4:=[m 11 9,m 4 11]
def r5:=[m 12 4,m 5 12]
def r6:=[m 13 5,o 14 (.a7 1 0),o 15 (.ld false 1 14),o 16 (.len 15),o 17 (.bin .lss 13 16)]
def r8:=[m 20 3,m 21 4,m 22 5,o 23 (.build [z,z] [(0,1,21),(1,1,22)]),o 24 (.m4 24 2 [23]),o 25 (.app 25 2 16 20 24),m 3 25]
def r7:=[m 18 5,o 19 (.bin .add 18 (k 1)),m 5 19]
def r9:=[o 26 (.bin .add 9 (k 1)),m 9 26]
def BZ:=[m 27 3,m 2 27]
def l2:=(s (s (d r6 [13,14,15,16]) (i 17 .skip (x 2))) (s (b 3 (d r8 [17,20,21,22,23,24,25])) (d r7 [18,19])))
def l1:=(s (p r3) (s (i 10 .skip (x 0)) (s (b 1 (s (d r4 [10,11]) (s (d r5 [12]) (b 2 (w l2))))) (d r9 [4,5,17,26]))))
def c:=(s (d r0 [0,2]) (s (p r1) (s (s (d r2 [6,7]) (b 0 (w l1))) (s (d BZ [1,3,8,9,10,27]) .ret))))
end Y3
def Y3:AFn:=⟨1,Y3.c,[.tmp 2],false⟩
namespace Y2
def r0:=[o 2 (.box 2 0),o 3 (.box 3 1),o 4 (.c6 (.c .nil)),o 5 (.alloc 5 [(.bool false),.nil,.nil])]
def r1:=[o 6 (.ff 6 3)]
def r2:=[o 10 (.ld true 2 2),o 11 (.call 321 [10]),o 12 (.len 11),o 13 (.c6 (k 0))]
def r3:=[o 14 (.bin .lss 13 12)]
def r4:=[o 15 (.b9 none 2 11 13),o 16 (.ld true 2 15),o 8 (.alloc 8 [z,z]),n (.st 2 8 16)]
def r5:=[o 17 (.a7 2 0),q 18 [9] (.ld false 1 17),o 19 (.a7 3 0),q 20 [9] (.ld false 1 19),o 21 (.b9 none 1 18 20),
 q 22 [9] (.ld false 1 21),o 23 (.a7 8 0),q 24 [9] (.ld false 1 23),o 25 (.b9 none 3 22 24),q 26 [9] (.ld true 3 25),
 o 27 (.a7 2 0),q 28 [9] (.ld false 1 27),o 29 (.a7 3 1),q 30 [9] (.ld false 1 29),o 31 (.b9 none 1 28 30),
 q 32 [9] (.ld false 1 31),o 33 (.a7 8 1),q 34 [9] (.ld false 1 33),o 35 (.b9 none 3 32 34),q 36 [9] (.ld true 3 35),
 q 37 [9] (.call 99 [26,36]),q 38 [9] (.call 199 [37]),o 9 (.alloc 9 [(.bool false),.nil,.nil]),n (.st 3 9 38)]
def r6:=[o 39 (.a7 8 0),o 40 (.ld false 1 39),o 41 (.a7 8 1),o 42 (.ld false 1 41),o 43 (.bin .neq 40 42)]
def r7:=[o 44 (.ld true 3 9),o 45 (.a7 2 0),o 46 (.ld false 1 45),o 47 (.a7 3 0),o 48 (.ld false 1 47),o 49 (.b9 none 1 46 48),o 50 (.ld false 1 49),
 o 51 (.a7 8 1),o 52 (.ld false 1 51),o 53 (.b9 none 3 50 52),o 54 (.ld true 3 53),o 55 (.a7 2 0),o 56 (.ld false 1 55),o 57 (.a7 3 1),
 o 58 (.ld false 1 57),o 59 (.b9 none 1 56 58),o 60 (.ld false 1 59),o 61 (.a7 8 0),o 62 (.ld false 1 61),o 63 (.b9 none 3 60 62),
 o 64 (.ld true 3 63),o 65 (.call 99 [54,64]),o 66 (.call 150 [44,65]),n (.st 3 9 66)]
def r8:=[o 67 (.ld true 2 8),o 68 (.ld true 2 3),o 69 (.wk false 2 67 68)]
def r9:=[o 70 (.ld true 3 9),o 71 (.call 96 [(k 1)]),o 72 (.call 98 [70,71]),n (.st 3 9 72)]
def BZ:=[m 73 6,o 74 (.ld true 3 9),o 75 (.m4 75 3 [74]),o 76 (.app 76 3 56 73 75),m 6 76]
def B8:=[o 77 (.bin .add 13 (k 1)),m 13 77]
def ct:=[m 78 6,o 79 (.a7 2 1),o 80 (.ld false 1 79),o 81 (.a7 3 0),o 82 (.ld false 1 81),o 83 (.b9 none 3 80 82),o 84 (.ld true 3 83),o 85 (.a7 2 1),
 o 86 (.ld false 1 85),o 87 (.a7 3 1),o 88 (.ld false 1 87),o 89 (.b9 none 3 86 88),o 90 (.ld true 3 89),o 91 (.call 99 [84,90]),m 4 78,
 n (.st 3 5 91)]
def l1:=(s (p r3) (s (i 14 .skip (x 0)) (s (b 1 (s (d r4 [14,15,16]) (s (e r5 [17,18,19,20,21,22,23,24,25,26,27,28,29,30,31,32,33,34,35,36,37,38]) (s (s (d r6 [39,40,41,42]) (i 43 (e r7 [43,44,45,46,47,48,49,50,51,52,53,54,55,56,57,58,59,60,61,62,63,64,65,66]) .skip)) (s (s (d r8 [8,43,67,68]) (i 69 (e r9 [69,70,71,72]) .skip)) (d BZ [9,69,73,74,75,76])))))) (d B8 [77]))))
def c:=(s (d r0 [0,1,4]) (s (p r1) (s (s (d r2 [10]) (b 0 (w l1))) (s (e ct [2,3,6,11,12,13,14,78,79,80,81,82,83,84,85,86,87,88,89,90,91]) .ret))))
end Y2
def Y2:AFn:=⟨2,Y2.c,[.tmp 4,.cell 5 true 3],false⟩
namespace Y4
def r0:=[o 1 (.box 1 0),o 2 (.c6 (.c .nil)),o 3 (.c6 (k 0))]
def r1:=[o 18 (.a7 1 0),o 19 (.ld false 1 18),o 20 (.len 19),o 21 (.mk 21 1 24 [.nil] 20 20),m 4 21]
def r2:=[m 22 4,o 23 (.len 22),o 24 (.c6 (k 0))]
def r3:=[o 25 (.bin .lss 24 23)]
def r4:=[m 26 24,m 5 26]
def r5:=[m 27 4,m 28 5,o 29 (.a7 1 0),o 30 (.ld false 1 29),o 31 (.len 30),o 32 (.mk 32 3 56 [(.bool false),.nil,.nil] 31 31),o 33 (.b9 none 1 27 28),
 n (.st 1 33 32)]
def r6:=[o 34 (.bin .add 24 (k 1)),m 24 34]
def r7:=[o 35 (.ld true 2 1),o 36 (.call 321 [35]),m 6 36]
def r8:=[m 37 6,o 38 (.len 37),o 39 (.bin .eql 38 (k 0))]
def r9:=[m 40 4,m 2 40,o 3 (.c6 (k 0))]
def BZ:=[o 41 (.ld true 2 1),o 42 (.wi 322 41),m 7 42]
def B8:=[o 8 (.ff 8 1)]
def ct:=[o 9 (.ff 9 3)]
def C3:=[m 43 6,o 44 (.len 43),o 45 (.c6 (k 0))]
def ft:=[o 46 (.bin .lss 45 44)]
def fu:=[o 47 (.b9 none 2 43 45),o 48 (.ld true 2 47),o 11 (.alloc 11 [z,z]),n (.st 2 11 48)]
def iv:=[m 50 7,o 51 (.ld true 2 11),o 52 (.y7 50 [51]),m 49 52,o 53 (.ext 49 0),o 54 (.ext 49 1),o 13 (.alloc 13 [(.bool false),.nil,.nil]),m 12 53,
 n (.st 3 13 54)]
def EQ:=[m 55 8,m 56 12,o 57 (.m4 57 1 [56]),o 58 (.app 58 1 24 55 57),m 8 58]
def jf:=[m 59 9,o 60 (.ld true 3 13),o 61 (.m4 61 3 [60]),o 62 (.app 62 3 56 59 61),m 9 62]
def ko:=[o 63 (.bin .add 45 (k 1)),m 45 63]
def mf:=[m 65 8,m 66 9,o 67 (.call 237 [65,66]),m 64 67,o 68 (.ext 64 0),o 69 (.ext 64 1),m 14 68,m 15 69]
def oy:=[m 70 15,o 71 (.bin .neq 70 (k 0))]
def qh:=[m 72 15,o 2 (.c6 (.c .nil)),m 3 72]
def tk:=[m 73 6,o 74 (.len 73),o 75 (.c6 (k 0))]
def QH:=[o 76 (.bin .lss 75 74)]
def dJ:=[m 77 75,o 78 (.b9 none 2 73 75),o 79 (.ld true 2 78),o 17 (.alloc 17 [z,z]),m 16 77,n (.st 2 17 79)]
def iI:=[m 80 4,o 81 (.a7 17 0),o 82 (.ld false 1 81),o 83 (.b9 none 1 80 82),o 84 (.ld false 1 83),o 85 (.a7 17 1),o 86 (.ld false 1 85),m 87 14,m 88 16,
 o 89 (.b9 none 3 87 88),o 90 (.ld true 3 89),o 91 (.call 95 [90]),o 92 (.b9 none 3 84 86),n (.st 3 92 91)]
def iJ:=[m 93 4,o 94 (.a7 17 1),o 95 (.ld false 1 94),o 96 (.b9 none 1 93 95),o 97 (.ld false 1 96),o 98 (.a7 17 0),o 99 (.ld false 1 98),m 100 14,
 m 101 16,o 102 (.b9 none 3 100 101),o 103 (.ld true 3 102),o 104 (.call 95 [103]),o 105 (.b9 none 3 97 99),n (.st 3 105 104)]
def nU:=[o 106 (.bin .add 75 (k 1)),m 75 106]
def nV:=[m 107 4,m 2 107,o 3 (.c6 (k 0))]
def l1:=(s (p r3) (s (i 25 .skip (x 0)) (s (b 1 (s (d r4 [25,26]) (d r5 [5,27,28,29,30,31,32,33]))) (d r6 [34]))))
def l2:=(s (p ft) (s (i 46 .skip (x 2)) (s (b 3 (s (d fu [46,47,48]) (s (d iv [11,49,50,51,52,53,54]) (s (d EQ [12,55,56,57,58]) (d jf [13,59,60,61,62]))))) (d ko [63]))))
def l3:=(s (p QH) (s (i 76 .skip (x 4)) (s (b 5 (s (d dJ [76,77,78,79]) (s (e iI [80,81,82,83,84,85,86,87,88,89,90,91,92]) (e iJ [16,17,93,94,95,96,97,98,99,100,101,102,103,104,105])))) (d nU [106]))))
def c:=(s (d r0 [0,2,3]) (s (d r1 [18,19,20,21]) (s (s (d r2 [22]) (b 0 (w l1))) (s (d r7 [23,24,25,35,36]) (s (s (d r8 [37,38]) (i 39 (s (d r9 [1,4,6,39,40]) .ret) .skip)) (s (d BZ [1,39,41,42]) (s (p B8) (s (p ct) (s (s (p C3) (b 2 (w l2))) (s (d mf [7,8,9,43,44,45,46,64,65,66,67,68,69]) (s (s (d oy [70]) (i 71 (s (d qh [4,6,14,15,71,72]) .ret) .skip)) (s (s (d tk [6,15,71]) (b 4 (w l3))) (s (d nV [4,14,73,74,75,76,107]) .ret)))))))))))))
end Y4
def Y4:AFn:=⟨1,Y4.c,[.tmp 2,.tmp 3],false⟩
namespace YX
def r0:=[o 4 (.c6 (.c .nil)),o 5 (.c6 (k 0))]
def r1:=[m 10 0,o 11 (.len 10),o 12 (.bin .gtr 11 (k 8)),m 13 12,g 14 13 false (.c6 1),g 15 13 false (.len 14),g 16 13 false (.c6 0),g 17 13 false (.len 16),
 g 18 13 false (.bin .neq 15 17),o 19 (.pick 13 (.c (.bool true)) 18)]
def r2:=[o 4 (.c6 (.c .nil)),o 5 (.c6 (k 2))]
def r3:=[m 20 0,o 21 (.len 20),o 22 (.c6 (k 0))]
def r4:=[o 23 (.bin .lss 22 21)]
def r5:=[o 24 (.b9 none 1 20 22),o 25 (.ld false 1 24),m 7 25]
def r6:=[m 26 7,o 27 (.len 26),m 28 0,o 29 (.len 28),o 30 (.bin .neq 27 29)]
def r7:=[o 4 (.c6 (.c .nil)),o 5 (.c6 (k 2))]
def r8:=[o 31 (.bin .add 22 (k 1)),m 22 31]
def r9:=[m 33 0,o 34 (.call 306 [33]),m 32 34,o 35 (.ext 32 0),o 36 (.ext 32 1),m 8 35,m 9 36]
def BZ:=[m 37 9,o 38 (.bin .neq 37 (k 0))]
def B8:=[m 39 9,o 4 (.c6 (.c .nil)),m 5 39]
def ct:=[m 40 0,m 41 1,o 42 (.build [.nil,.nil] [(0,1,40),(1,1,41)]),o 43 (.call 323 [42]),o 44 (.ext 43 0),o 45 (.ext 43 1),m 4 44,m 5 45]
def l1:=(s (p r4) (s (i 23 .skip (x 0)) (s (b 1 (s (d r5 [23,24,25]) (s (d r6 [7,26,27,28,29]) (i 30 (s (d r7 [0,1,20,21,22,30]) .ret) .skip)))) (d r8 [30,31]))))
def c:=(s (d r0 [4,5]) (s (s (d r1 [10,11,12,13,14,15,16,17,18]) (i 19 (s (d r2 [0,1,19]) .ret) .skip)) (s (s (d r3 [19]) (b 0 (w l1))) (s (s (d r9 [8,20,21,22,23,32,33,34,35,36]) (s (d BZ [37]) (i 38 (s (d B8 [0,1,9,38,39]) .ret) .skip))) (s (d ct [0,1,9,38,40,41,42,43,44,45]) .ret)))))
end YX
def YX:AFn:=⟨2,YX.c,[.tmp 4,.tmp 5],false⟩
structure dw (L:Lib):Prop extends cu L,yf L,u5 L,oz L,ia L where
 Y3:L 321=some F.Y3
 Y2:L 322=some F.Y2
 Y4:L 323=some F.Y4
 YX:L 324=some F.YX
end Go.e9.F

namespace Go.e9.F
open C
namespace Y5
def r0:=[o 1 (.box 1 0),o 2 (.c6 (.c (.bool false)))]
def r1:=[o 3 (.ld true 6 1),o 4 (.call 130 [3]),m 5 4,g 6 5 true (.a7 1 0),g 7 5 true (.ld false 1 6),g 8 5 true (.len 7),g 9 5 true (.bin .leq 8 (k 8)),
 o 10 (.pick 5 9 (.c (.bool false))),m 2 10]
def c:=(s (d r0 [0,2]) (s (d r1 [1,3,4,5,6,7,8,9,10]) .ret))
end Y5
def Y5:AFn:=⟨1,Y5.c,[.tmp 2],false⟩
namespace Y1
def r0:=[o 4 (.alloc 4 [(.bool false),.nil,.nil])]
def r1:=[o 8 (.call 96 [(k 0)]),o 5 (.alloc 5 [(.bool false),.nil,.nil]),n (.st 3 5 8)]
def r2:=[m 9 0,o 10 (.len 9),o 11 (.c6 (k 0))]
def r3:=[o 12 (.bin .lss 11 10)]
def r4:=[m 13 11,m 6 13]
def r5:=[m 14 0,m 15 6,o 16 (.b9 none 1 14 15),o 17 (.ld false 1 16),o 18 (.len 17),o 19 (.c6 (k 0))]
def r6:=[o 20 (.bin .lss 19 18)]
def r7:=[m 21 19,m 7 21]
def r8:=[o 22 (.ld true 3 5),m 23 0,m 24 6,o 25 (.b9 none 1 23 24),o 26 (.ld false 1 25),m 27 7,o 28 (.b9 none 3 26 27),o 29 (.ld true 3 28),m 30 1,m 31 6,
 o 32 (.b9 none 3 30 31),o 33 (.ld true 3 32),m 34 1,m 35 7,o 36 (.b9 none 3 34 35),o 37 (.ld true 3 36),o 38 (.call 99 [33,37]),
 o 39 (.call 99 [29,38]),o 40 (.call 98 [22,39]),n (.st 3 5 40)]
def r9:=[o 41 (.bin .add 19 (k 1)),m 19 41]
def BZ:=[o 42 (.bin .add 11 (k 1)),m 11 42]
def B8:=[o 43 (.ld true 3 5),n (.st 3 4 43)]
def l2:=(s (p r6) (s (i 20 .skip (x 2)) (s (b 3 (s (d r7 [20,21]) (e r8 [7,22,23,24,25,26,27,28,29,30,31,32,33,34,35,36,37,38,39,40]))) (d r9 [41]))))
def l1:=(s (p r3) (s (i 12 .skip (x 0)) (s (b 1 (s (d r4 [12,13]) (s (d r5 [14,15,16,17]) (b 2 (w l2))))) (d BZ [6,18,19,20,42]))))
def c:=(s (p r0) (s (d r1 [8]) (s (s (d r2 [9]) (b 0 (w l1))) (s (d B8 [0,1,5,10,11,12,43]) .ret))))
end Y1
def Y1:AFn:=⟨2,Y1.c,[.cell 4 true 3],false⟩
namespace Y0
def r0:=[o 4 (.c6 (.c .nil))]
def r1:=[m 9 0,o 10 (.len 9),o 11 (.mk 11 3 56 [(.bool false),.nil,.nil] 10 10),m 5 11]
def r2:=[m 12 5,o 13 (.len 12),o 14 (.c6 (k 0))]
def r3:=[o 15 (.bin .lss 14 13)]
def r4:=[m 16 14,m 6 16]
def r5:=[o 17 (.call 96 [(k 0)]),o 7 (.alloc 7 [(.bool false),.nil,.nil]),n (.st 3 7 17)]
def r6:=[m 18 0,o 19 (.len 18),o 20 (.c6 (k 0))]
def r7:=[o 21 (.bin .lss 20 19)]
def r8:=[m 22 20,m 8 22]
def r9:=[o 23 (.ld true 3 7),m 24 0,m 25 8,o 26 (.b9 none 3 24 25),o 27 (.ld true 3 26),m 28 1,m 29 8,o 30 (.b9 none 1 28 29),o 31 (.ld false 1 30),m 32 6,
 o 33 (.b9 none 3 31 32),o 34 (.ld true 3 33),o 35 (.call 99 [27,34]),o 36 (.call 98 [23,35]),n (.st 3 7 36)]
def BZ:=[o 37 (.bin .add 20 (k 1)),m 20 37]
def B8:=[m 38 5,m 39 6,o 40 (.ld true 3 7),o 41 (.b9 none 3 38 39),n (.st 3 41 40)]
def ct:=[o 42 (.bin .add 14 (k 1)),m 14 42]
def C3:=[m 43 5,m 4 43]
def l2:=(s (p r7) (s (i 21 .skip (x 2)) (s (b 3 (s (d r8 [21,22]) (e r9 [8,23,24,25,26,27,28,29,30,31,32,33,34,35,36]))) (d BZ [37]))))
def l1:=(s (p r3) (s (i 15 .skip (x 0)) (s (b 1 (s (d r4 [15,16]) (s (d r5 [17]) (s (s (d r6 [18]) (b 2 (w l2))) (d B8 [6,7,19,20,21,38,39,40,41]))))) (d ct [42]))))
def c:=(s (d r0 [4]) (s (d r1 [9,10,11]) (s (s (d r2 [12]) (b 0 (w l1))) (s (d C3 [0,1,5,13,14,15,43]) .ret))))
end Y0
def Y0:AFn:=⟨2,Y0.c,[.tmp 4],false⟩
namespace J7
def r0:=[o 2 (.box 2 0),o 4 (.alloc 4 [(.bool false),.nil,.nil]),o 5 (.c6 (k 0))]
def r1:=[o 9 (.ld true 6 2),o 10 (.call 328 [9]),o 11 (.un .not 10)]
def r2:=[o 12 (.build [(.bool false),.nil,.nil] []),n (.st 3 4 12),o 5 (.c6 (k 2))]
def r3:=[m 13 1,o 14 (.bin .lss 13 (k 0)),m 15 14,g 16 15 false (.c6 1),g 17 15 false (.bin .gtr 16 (k 64)),o 18 (.pick 15 (.c (.bool true)) 17)]
def r4:=[o 19 (.build [(.bool false),.nil,.nil] []),n (.st 3 4 19),o 5 (.c6 (k 1))]
def r5:=[o 21 (.a7 2 0),o 22 (.ld false 1 21),o 23 (.a7 2 1),o 24 (.ld false 1 23),o 25 (.call 324 [22,24]),m 20 25,o 26 (.ext 20 0),o 27 (.ext 20 1),
 m 6 26,m 7 27]
def r6:=[m 28 7,o 29 (.bin .neq 28 (k 0))]
def r7:=[o 30 (.build [(.bool false),.nil,.nil] []),m 31 7,n (.st 3 4 30),m 5 31]
def r8:=[m 32 1,o 33 (.bin .eql 32 (k 0))]
def r9:=[o 34 (.a7 2 3),o 35 (.ld true 3 34),o 36 (.a7 2 3),o 37 (.ld true 3 36),o 38 (.call 99 [35,37]),m 39 6,o 40 (.a7 2 2),o 41 (.ld false 1 40),
 o 42 (.call 329 [39,41]),o 43 (.call 98 [38,42]),n (.st 3 4 43),o 5 (.c6 (k 0))]
def BZ:=[o 44 (.a7 2 2),o 45 (.ld false 1 44),m 8 45]
def B8:=[m 46 1,o 47 (.bin .sub 46 (k 1)),o 48 (.c6 (k 0))]
def ct:=[o 49 (.bin .lss 48 47)]
def C3:=[m 50 8,o 51 (.a7 2 0),o 52 (.ld false 1 51),o 53 (.call 330 [50,52]),m 8 53]
def ft:=[o 54 (.bin .add 48 (k 1)),m 48 54]
def fu:=[m 55 6,m 56 8,o 57 (.call 329 [55,56]),n (.st 3 4 57),o 5 (.c6 (k 0))]
def l1:=(s (p ct) (s (i 49 .skip (x 0)) (s (b 1 (d C3 [49,50,51,52,53])) (d ft [54]))))
def c:=(s (d r0 [0,5]) (s (s (d r1 [9,10]) (i 11 (s (d r2 [1,2,11,12]) .ret) .skip)) (s (s (d r3 [11,13,14,15,16,17]) (i 18 (s (d r4 [1,2,18,19]) .ret) .skip)) (s (d r5 [18,20,21,22,23,24,25,26,27]) (s (s (d r6 [28]) (i 29 (s (d r7 [1,2,6,7,29,30,31]) .ret) .skip)) (s (s (d r8 [7,29,32]) (i 33 (s (e r9 [1,2,6,33,34,35,36,37,38,39,40,41,42,43]) .ret) .skip)) (s (d BZ [33,44,45]) (s (s (d B8 [1,46]) (b 0 (w l1))) (s (d fu [2,6,8,47,48,49,55,56,57]) .ret)))))))))
end J7
def J7:AFn:=⟨2,J7.c,[.cell 4 true 3,.tmp 5],false⟩
namespace QG
def r0:=[o 1 (.box 1 0),o 2 (.alloc 2 [(.bool false),.nil,.nil]),o 3 (.c6 (k 0))]
def r1:=[o 4 (.ld true 6 1),o 5 (.call 331 [4,(k 0)]),o 6 (.ext 5 0),o 7 (.ext 5 1),n (.st 3 2 6),m 3 7]
def c:=(s (d r0 [0,3]) (s (d r1 [1,4,5,6,7]) .ret))
end QG
def QG:AFn:=⟨1,QG.c,[.cell 2 true 3,.tmp 3],false⟩
structure aj (L:Lib):Prop extends dw L where
 Y5:L 328=some F.Y5
 Y1:L 329=some F.Y1
 Y0:L 330=some F.Y0
 J7:L 331=some F.J7
 QG:L 332=some F.QG
end Go.e9.F

namespace Go.e9.F
open C
namespace X0
def r0:=[o 0 (.c6 (.c (.bool false)))]
def r1:=[o 9 (.call 124 [(k 1)]),o 10 (.call 125 [(k 1),(k 2)]),o 1 (.alloc 1 [(.bool false),.nil,.nil]),o 2 (.alloc 2 [(.bool false),.nil,.nil]),n (.st 3 1 9),
 n (.st 3 2 10)]
def r2:=[q 12 [17,3] (.ld true 3 1),o 13 (.m4 13 3 [12]),q 14 [13,3] (.ld true 3 1),q 15 [13,3] (.ld true 3 2),
 q 16 [13,3] (.call 152 [15]),o 17 (.m4 17 3 [14,16]),o 18 (.build [.nil,.nil] [(0,1,13),(1,1,17)]),
 q 19 [3] (.call 207 [18]),m 11 19,o 20 (.ext 11 0),o 21 (.ext 11 1),o 3 (.alloc 3 [.nil,.nil,.nil,(.bool false),.nil,.nil]),
 n (.st 6 3 20),m 4 21]
def r3:=[o 23 (.ld true 6 3),o 24 (.call 332 [23]),m 22 24,o 25 (.ext 22 0),o 26 (.ext 22 1),o 5 (.alloc 5 [(.bool false),.nil,.nil]),n (.st 3 5 25),m 6 26]
def r4:=[o 28 (.ld true 6 3),o 29 (.call 331 [28,(k 1)]),m 27 29,o 30 (.ext 27 0),o 31 (.ext 27 1),o 7 (.alloc 7 [(.bool false),.nil,.nil]),n (.st 3 7 30),
 m 8 31]
def r5:=[m 32 4,o 33 (.bin .eql 32 (k 0)),m 34 33,g 35 34 true (.c6 6),g 36 34 true (.bin .eql 35 (k 0)),o 37 (.pick 34 36 (.c (.bool false))),m 38 37,
 g 39 38 true (.c6 8),g 40 38 true (.bin .eql 39 (k 0)),o 41 (.pick 38 40 (.c (.bool false))),m 42 41,g 43 42 true (.ld true 3 5),
 g 44 42 true (.call 125 [(k 4),(k 3)]),g 45 42 true (.call 127 [43,44]),g 46 42 true (.bin .eql 45 (k 0)),o 47 (.pick 42 46 (.c (.bool false))),m 48 47,
 g 49 48 true (.ld true 3 7),g 50 48 true (.call 125 [(k 1),(k 3)]),g 51 48 true (.call 127 [49,50]),g 52 48 true (.bin .eql 51 (k 0)),
 o 53 (.pick 48 52 (.c (.bool false))),m 0 53]
def c:=(s (d r0 [0]) (s (d r1 [9,10]) (s (e r2 [1,2,11,12,13,14,15,16,17,18,19,20,21]) (s (d r3 [22,23,24,25,26]) (s (d r4 [3,27,28,29,30,31]) (s (e r5 [4,5,6,7,8,32,33,34,35,36,37,38,39,40,41,42,43,44,45,46,47,48,49,50,51,52,53]) .ret))))))
end X0
def X0:AFn:=⟨0,X0.c,[.tmp 0],false⟩
structure cn (L:Lib):Prop extends aj L where
 X0:L 336=some F.X0
end Go.e9.F

namespace Go.e9.F
open C
namespace XZ
def r0:=[o 6 (.c6 (.c (.bool false)))]
def r1:=[m 15 2,o 16 (.call 34 [15,(k 3)]),o 17 (.bin .add (k 1) 16),m 7 17]
def r2:=[m 18 0,m 19 7,o 20 (.call 317 [18,19]),o 8 (.alloc 8 [.nil,.nil,.nil,(.bool false),.nil,.nil]),n (.st 6 8 20)]
def r3:=[q 22 [9] (.ld true 6 8),m 23 1,m 24 7,q 25 [9] (.call 280 [23,24]),q 26 [9] (.call 292 [22,25]),m 21 26,
 o 27 (.ext 21 0),o 28 (.ext 21 1),o 9 (.alloc 9 [.nil,.nil,.nil,(.bool false),.nil,.nil]),n (.st 6 9 27),m 10 28]
def r4:=[m 29 10,o 30 (.bin .neq 29 (k 0))]
def r5:=[o 31 (.call 336 []),m 32 31,g 33 32 true (.c6 10),g 34 32 true (.bin .eql 33 (k 11)),o 35 (.pick 32 34 (.c (.bool false))),m 6 35]
def r6:=[o 37 (.ld true 6 8),o 38 (.call 332 [37]),m 36 38,o 39 (.ext 36 0),o 40 (.ext 36 1),o 11 (.alloc 11 [(.bool false),.nil,.nil]),n (.st 3 11 39),m 12 40]
def r7:=[o 42 (.ld true 6 9),o 43 (.call 332 [42]),m 41 43,o 44 (.ext 41 0),o 45 (.ext 41 1),o 13 (.alloc 13 [(.bool false),.nil,.nil]),n (.st 3 13 44),m 14 45]
def r8:=[o 46 (.call 336 []),m 47 46,g 48 47 true (.c6 12),g 49 47 true (.bin .neq 48 (k 0)),g 50 47 true (.c6 49),g 51 50 false (.c6 14),
 g 52 50 false (.bin .neq 51 (k 0)),g 53 47 true (.pick 50 (.c (.bool true)) 52),g 54 47 true (.c6 53),g 55 54 false (.ld true 3 11),
 g 56 54 false (.ld true 3 13),g 57 54 false (.call 127 [55,56]),g 58 54 false (.bin .eql 57 (k 0)),g 59 47 true (.pick 54 (.c (.bool true)) 58),
 o 60 (.pick 47 59 (.c (.bool false))),m 6 60]
def c:=(s (d r0 [6]) (s (d r1 [2,15,16,17]) (s (d r2 [0,18,19,20]) (s (e r3 [1,7,21,22,23,24,25,26,27,28]) (s (s (d r4 [29]) (i 30 (s (d r5 [8,9,10,30,31,32,33,34,35]) .ret) .skip)) (s (d r6 [8,10,30,36,37,38,39,40]) (s (d r7 [9,41,42,43,44,45]) (s (d r8 [11,12,13,14,46,47,48,49,50,51,52,53,54,55,56,57,58,59,60]) .ret))))))))
end XZ
def XZ:AFn:=⟨3,XZ.c,[.tmp 6],false⟩
structure qi (L:Lib):Prop extends ig L,cn L where
 XZ:L 344=some F.XZ
end Go.e9.F
