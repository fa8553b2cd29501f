/-
  Functions of the program, as the abstract machine reads them (group RefG). Written by a program (gen.py) off the model's own reading of the translation; the seat's check ties them to it.
-/
import Derived.Test.YtplhdlbnneoobaaGreatB1
import Derived.Test.YtplhdlbnneoobaaGreatB3
set_option linter.unusedSimpArgs false
set_option linter.unusedVariables false
set_option linter.unnecessarySimpa false
namespace Go.b7.F
open C
namespace HV
def r0:=[o 2 (.a8 (.c .nil))]
def r1:=[m 4 0,o 5 (.len 4),m 3 5]
def r2:=[m 6 3,o 7 (.bin .gtr 6 (k 0)),m 8 7,g 9 8 true (.a8 0),g 10 8 true (.a8 3),g 11 8 true (.bin .sub 10 (k 1)),g 12 8 true (.a7 none 1 9 11),
 g 13 8 true (.ld false 1 12),g 14 8 true (.bin .eql 13 (.c (.int .u32 (0)))),o 15 (.pick 8 14 (.c (.bool false)))]
def r3:=[m 16 3,o 17 (.bin .sub 16 (k 1)),m 3 17]
def r4:=[m 18 0,m 19 3,o 20 (.bz 1 18 none (some 19)),o 21 (.app 101021 1 4 (.c .nil) 20),m 2 21]
def l1:=(s (s (d r2 [6,7,8,9,10,11,12,13,14]) (i 15 .skip (x 0))) (b 1 (d r3 [15,16,17])))
def c:=(s (d r0 [2]) (s (d r1 [4,5]) (s (b 0 (w l1)) (s (d r4 [0,3,15,18,19,20,21]) .ret))))
end HV
def HV:AFn:=⟨1,HV.c,[.tmp 2],false⟩
namespace ND
def r0:=[o 4 (.a8 (k 0))]
def r1:=[m 6 0,o 7 (.call 101 [6]),m 8 1,o 9 (.call 101 [8]),m 0 7,m 1 9]
def r2:=[m 10 0,o 11 (.len 10),m 12 1,o 13 (.len 12),o 14 (.bin .neq 11 13)]
def r3:=[m 15 0,o 16 (.len 15),m 17 1,o 18 (.len 17),o 19 (.bin .lss 16 18)]
def r4:=[o 4 (.a8 (k (-1)))]
def r5:=[o 4 (.a8 (k 1))]
def r6:=[m 20 0,o 21 (.len 20),o 22 (.bin .sub 21 (k 1)),m 5 22]
def r7:=[m 23 5,o 24 (.bin .geq 23 (k 0))]
def r9:=[m 27 0,m 28 5,o 29 (.a7 none 1 27 28),o 30 (.ld false 1 29),m 31 1,m 32 5,o 33 (.a7 none 1 31 32),o 34 (.ld false 1 33),o 35 (.bin .lss 30 34)]
def BX:=[o 4 (.a8 (k (-1)))]
def B2:=[m 36 0,m 37 5,o 38 (.a7 none 1 36 37),o 39 (.ld false 1 38),m 40 1,m 41 5,o 42 (.a7 none 1 40 41),o 43 (.ld false 1 42),o 44 (.bin .gtr 39 43)]
def s8:=[o 4 (.a8 (k 1))]
def r8:=[m 25 5,o 26 (.bin .sub 25 (k 1)),m 5 26]
def CO:=[o 4 (.a8 (k 0))]
def l1:=(s (s (d r7 [23]) (i 24 .skip (x 0))) (s (b 1 (s (s (e r9 [24,27,28,29,30,31,32,33,34]) (i 35 (s (d BX [0,1,5,35]) .ret) .skip)) (s (e B2 [35,36,37,38,39,40,41,42,43]) (i 44 (s (d s8 [0,1,5,44]) .ret) .skip)))) (d r8 [25,26,44])))
def c:=(s (d r0 [4]) (s (d r1 [6,7,8,9]) (s (s (d r2 [10,11,12,13]) (i 14 (s (s (d r3 [0,1,14,15,16,17,18]) (i 19 (s (d r4 [19]) .ret) .skip)) (s (d r5 [19]) .ret)) .skip)) (s (s (d r6 [14,20,21,22]) (b 0 (w l1))) (s (d CO [0,1,5,24]) .ret)))))
end ND
def ND:AFn:=⟨2,ND.c,[.tmp 4],false⟩
namespace NB
def r0:=[o 4 (.a8 (.c .nil))]
def r1:=[o 5 (.x8 5 1)]
def r2:=[o 6 (.a8 (.c (.int .u64 (0))))]
def r3:=[o 7 (.a8 (k 0))]
def r4:=[m 8 7,m 9 0,o 10 (.len 9),o 11 (.bin .lss 8 10),m 12 11,g 13 12 false (.a8 7),g 14 12 false (.a8 1),g 15 12 false (.len 14),
 g 16 12 false (.bin .lss 13 15),o 17 (.pick 12 (.c (.bool true)) 16)]
def r6:=[m 20 7,m 21 0,o 22 (.len 21),o 23 (.bin .lss 20 22)]
def r7:=[m 24 6,m 25 0,m 26 7,o 27 (.a7 none 1 25 26),o 28 (.ld false 1 27),o 29 (.conv .u64 28),o 30 (.bin .add 24 29),m 6 30]
def r8:=[m 31 7,m 32 1,o 33 (.len 32),o 34 (.bin .lss 31 33)]
def r9:=[m 35 6,m 36 1,m 37 7,o 38 (.a7 none 1 36 37),o 39 (.ld false 1 38),o 40 (.conv .u64 39),o 41 (.bin .add 35 40),m 6 41]
def BX:=[m 42 5,m 43 6,o 44 (.conv .u32 43),o 45 (.b8 45 1 [44]),o 46 (.app 46 1 4 42 45),m 5 46]
def B2:=[m 47 6,o 48 (.bin .shr 47 (.c (.int .u64 (32)))),m 6 48]
def r5:=[m 18 7,o 19 (.bin .add 18 (k 1)),m 7 19]
def s8:=[m 49 5,m 50 6,o 51 (.conv .u32 50),o 52 (.b8 52 1 [51]),o 53 (.app 53 1 4 49 52),o 54 (.call 101 [53]),m 4 54]
def l1:=(s (s (d r4 [8,9,10,11,12,13,14,15,16]) (i 17 .skip (x 0))) (s (b 1 (s (s (d r6 [17,20,21,22]) (i 23 (d r7 [23,24,25,26,27,28,29,30]) .skip)) (s (s (d r8 [23,31,32,33]) (i 34 (d r9 [34,35,36,37,38,39,40,41]) .skip)) (s (d BX [34,42,43,44,45,46]) (d B2 [47,48]))))) (d r5 [18,19])))
def c:=(s (d r0 [4]) (s (p r1) (s (p r2) (s (s (p r3) (b 0 (w l1))) (s (d s8 [0,1,5,6,7,17,49,50,51,52,53,54]) .ret)))))
end NB
def NB:AFn:=⟨2,NB.c,[.tmp 4],false⟩
namespace JJ
def r0:=[o 4 (.a8 (.c .nil))]
def r1:=[m 10 0,m 11 1,o 12 (.call 102 [10,11]),o 13 (.bin .lss 12 (k 0))]
def r2:=[o 4 (.a8 (.c .nil))]
def r3:=[m 14 1,o 15 (.call 101 [14]),m 1 15]
def r4:=[m 16 0,o 17 (.e9 101 [16]),m 5 17]
def r5:=[o 6 (.a8 (.c (.int .u64 (0))))]
def r6:=[o 7 (.a8 (k 0))]
def r7:=[m 18 7,m 19 5,o 20 (.len 19),o 21 (.bin .lss 18 20)]
def r9:=[m 24 6,m 8 24]
def BX:=[m 25 7,m 26 1,o 27 (.len 26),o 28 (.bin .lss 25 27)]
def B2:=[m 29 8,m 30 1,m 31 7,o 32 (.a7 none 1 30 31),o 33 (.ld false 1 32),o 34 (.conv .u64 33),o 35 (.bin .add 29 34),m 8 35]
def s8:=[m 36 5,m 37 7,o 38 (.a7 none 1 36 37),o 39 (.ld false 1 38),o 40 (.conv .u64 39),m 9 40]
def CO:=[o 6 (.a8 (.c (.int .u64 (0))))]
def w6:=[m 41 9,m 42 8,o 43 (.bin .lss 41 42)]
def w7:=[m 44 9,o 45 (.bin .add 44 (.c (.int .u64 (4294967296)))),m 9 45]
def y5:=[o 6 (.a8 (.c (.int .u64 (1))))]
def DM:=[m 46 5,m 47 7,m 48 9,m 49 8,o 50 (.bin .sub 48 49),o 51 (.conv .u32 50),o 52 (.a7 none 1 46 47),n (.st 1 52 51)]
def r8:=[m 22 7,o 23 (.bin .add 22 (k 1)),m 7 23]
def af:=[m 53 5,o 54 (.call 101 [53]),m 4 54]
def l1:=(s (s (d r7 [18,19,20]) (i 21 .skip (x 0))) (s (b 1 (s (d r9 [6,21,24]) (s (s (d BX [25,26,27]) (i 28 (d B2 [28,29,30,31,32,33,34,35]) .skip)) (s (d s8 [28,36,37,38,39,40]) (s (p CO) (s (s (d w6 [41,42]) (i 43 (s (d w7 [6,43,44,45]) (p y5)) .skip)) (d DM [8,9,43,46,47,48,49,50,51,52]))))))) (d r8 [22,23])))
def c:=(s (d r0 [4]) (s (s (d r1 [10,11,12]) (i 13 (s (d r2 [0,1,13]) .ret) .skip)) (s (d r3 [13,14,15]) (s (d r4 [0,16,17]) (s (p r5) (s (s (p r6) (b 0 (w l1))) (s (d af [1,5,6,7,21,53,54]) .ret)))))))
end JJ
def JJ:AFn:=⟨2,JJ.c,[.tmp 4],false⟩
namespace NF
def r0:=[o 4 (.a8 (.c .nil))]
def r1:=[m 9 0,o 10 (.len 9),m 11 1,o 12 (.len 11),o 13 (.bin .add 10 12),o 14 (.bin .add 13 (k 1)),o 15 (.mk 15 1 4 [(.int .u32 (0))] 14 14),m 5 15]
def r2:=[o 6 (.a8 (k 0))]
def r3:=[m 16 6,m 17 0,o 18 (.len 17),o 19 (.bin .lss 16 18)]
def r5:=[o 7 (.a8 (.c (.int .u64 (0))))]
def r6:=[o 8 (.a8 (k 0))]
def r7:=[m 22 8,m 23 1,o 24 (.len 23),o 25 (.bin .lss 22 24)]
def r9:=[m 28 7,m 29 0,m 30 6,o 31 (.a7 none 1 29 30),o 32 (.ld false 1 31),o 33 (.conv .u64 32),m 34 1,m 35 8,o 36 (.a7 none 1 34 35),
 o 37 (.ld false 1 36),o 38 (.conv .u64 37),o 39 (.bin .mul 33 38),m 40 5,m 41 6,m 42 8,o 43 (.bin .add 41 42),o 44 (.a7 none 1 40 43),
 o 45 (.ld false 1 44),o 46 (.conv .u64 45),o 47 (.bin .add 39 46),o 48 (.bin .add 28 47),m 7 48]
def BX:=[m 49 5,m 50 6,m 51 8,o 52 (.bin .add 50 51),m 53 7,o 54 (.conv .u32 53),o 55 (.a7 none 1 49 52),n (.st 1 55 54)]
def B2:=[m 56 7,o 57 (.bin .shr 56 (.c (.int .u64 (32)))),m 7 57]
def r8:=[m 26 8,o 27 (.bin .add 26 (k 1)),m 8 27]
def s8:=[m 58 5,m 59 6,m 60 1,o 61 (.len 60),o 62 (.bin .add 59 61),m 63 7,o 64 (.conv .u32 63),o 65 (.a7 none 1 58 62),n (.st 1 65 64)]
def r4:=[m 20 6,o 21 (.bin .add 20 (k 1)),m 6 21]
def CO:=[m 66 5,o 67 (.call 101 [66]),m 4 67]
def l2:=(s (s (d r7 [22,23,24]) (i 25 .skip (x 2))) (s (b 3 (s (e r9 [25,28,29,30,31,32,33,34,35,36,37,38,39,40,41,42,43,44,45,46,47,48]) (s (d BX [49,50,51,52,53,54,55]) (d B2 [56,57])))) (d r8 [26,27])))
def l1:=(s (s (d r3 [16,17,18]) (i 19 .skip (x 0))) (s (b 1 (s (d r5 [19]) (s (s (p r6) (b 2 (w l2))) (d s8 [7,8,25,58,59,60,61,62,63,64,65])))) (d r4 [20,21])))
def c:=(s (d r0 [4]) (s (d r1 [9,10,11,12,13,14,15]) (s (s (p r2) (b 0 (w l1))) (s (d CO [0,1,5,6,19,66,67]) .ret))))
end NF
def NF:AFn:=⟨2,NF.c,[.tmp 4],false⟩
namespace NC
def r0:=[o 2 (.a8 (k 0))]
def r1:=[m 5 0,o 6 (.call 101 [5]),m 0 6]
def r2:=[m 7 0,o 8 (.len 7),o 9 (.bin .eql 8 (k 0))]
def r3:=[o 2 (.a8 (k 0))]
def r4:=[m 10 0,o 11 (.len 10),o 12 (.bin .sub 11 (k 1)),o 13 (.bin .mul (k 32) 12),m 3 13]
def r5:=[m 14 0,m 15 0,o 16 (.len 15),o 17 (.bin .sub 16 (k 1)),o 18 (.a7 none 1 14 17),o 19 (.ld false 1 18),m 4 19]
def r6:=[m 20 4,o 21 (.bin .gtr 20 (.c (.int .u32 (0))))]
def r8:=[m 24 3,o 25 (.bin .add 24 (k 1)),m 3 25]
def r7:=[m 22 4,o 23 (.bin .shr 22 (.c (.int .u64 (1)))),m 4 23]
def r9:=[m 26 3,m 2 26]
def l1:=(s (s (d r6 [20]) (i 21 .skip (x 0))) (s (b 1 (d r8 [21,24,25])) (d r7 [22,23])))
def c:=(s (d r0 [2]) (s (d r1 [5,6]) (s (s (d r2 [7,8]) (i 9 (s (d r3 [0,9]) .ret) .skip)) (s (d r4 [9,10,11,12,13]) (s (s (d r5 [0,14,15,16,17,18,19]) (b 0 (w l1))) (s (d r9 [3,4,21,26]) .ret))))))
end NC
def NC:AFn:=⟨1,NC.c,[.tmp 2],false⟩
namespace IZ
def r0:=[o 4 (.a8 (.c .nil))]
def r1:=[m 11 0,o 12 (.call 101 [11]),m 0 12]
def r2:=[m 13 1,o 14 (.bin .gtr 13 (k 65536)),m 15 14,g 16 15 false (.a8 0),g 17 15 false (.len 16),g 18 15 false (.bin .eql 17 (k 0)),
 o 19 (.pick 15 (.c (.bool true)) 18)]
def r3:=[o 4 (.a8 (.c .nil))]
def r4:=[m 20 1,o 21 (.bin .lss 20 (k 0))]
def r5:=[m 22 1,m 23 0,o 24 (.len 23),o 25 (.bin .mul (k (-32)) 24),o 26 (.bin .lss 22 25)]
def r6:=[o 4 (.a8 (.c .nil))]
def r7:=[m 27 1,o 28 (.un .neg 27),m 1 28]
def r8:=[o 5 (.x8 107005 1)]
def r9:=[m 29 1,o 30 (.bin .quo 29 (k 32)),m 6 30]
def BX:=[m 31 6,m 32 0,o 33 (.len 32),o 34 (.bin .lss 31 33)]
def s8:=[m 37 0,m 38 6,o 39 (.a7 none 1 37 38),o 40 (.ld false 1 39),o 41 (.conv .u64 40),m 7 41]
def CO:=[m 42 6,o 43 (.bin .add 42 (k 1)),m 44 0,o 45 (.len 44),o 46 (.bin .lss 43 45)]
def w6:=[m 47 7,m 48 0,m 49 6,o 50 (.bin .add 49 (k 1)),o 51 (.a7 none 1 48 50),o 52 (.ld false 1 51),o 53 (.conv .u64 52),
 o 54 (.bin .shl 53 (.c (.int .u64 (32)))),o 55 (.bin .or 47 54),m 7 55]
def w7:=[m 56 5,m 57 7,m 58 1,o 59 (.bin .rem 58 (k 32)),o 60 (.conv .u64 59),o 61 (.bin .shr 57 60),o 62 (.conv .u32 61),o 63 (.b8 107063 1 [62]),
 o 64 (.app 107064 1 4 56 63),m 5 64]
def B2:=[m 35 6,o 36 (.bin .add 35 (k 1)),m 6 36]
def y5:=[m 65 5,o 66 (.call 101 [65]),m 4 66]
def DM:=[m 67 1,o 68 (.bin .quo 67 (k 32)),o 69 (.mk 107069 1 4 [(.int .u32 (0))] 68 68),m 8 69]
def af:=[o 9 (.a8 (.c (.int .u64 (0))))]
def bm:=[o 10 (.a8 (k 0))]
def cp:=[m 70 10,m 71 0,o 72 (.len 71),o 73 (.bin .lss 70 72)]
def fk:=[m 76 9,m 77 0,m 78 10,o 79 (.a7 none 1 77 78),o 80 (.ld false 1 79),o 81 (.conv .u64 80),m 82 1,o 83 (.bin .rem 82 (k 32)),o 84 (.conv .u64 83),
 o 85 (.bin .shl 81 84),o 86 (.bin .or 76 85),m 9 86]
def gv:=[m 87 8,m 88 9,o 89 (.conv .u32 88),o 90 (.b8 107090 1 [89]),o 91 (.app 107091 1 4 87 90),m 8 91]
def IW:=[m 92 9,o 93 (.bin .shr 92 (.c (.int .u64 (32)))),m 9 93]
def ea:=[m 74 10,o 75 (.bin .add 74 (k 1)),m 10 75]
def JV:=[m 94 8,m 95 9,o 96 (.conv .u32 95),o 97 (.b8 107097 1 [96]),o 98 (.app 107098 1 4 94 97),o 99 (.e9 101 [98]),m 4 99]
def l1:=(s (s (d BX [31,32,33]) (i 34 .skip (x 0))) (s (b 1 (s (d s8 [34,37,38,39,40,41]) (s (s (d CO [42,43,44,45]) (i 46 (d w6 [46,47,48,49,50,51,52,53,54,55]) .skip)) (d w7 [7,46,56,57,58,59,60,61,62,63,64])))) (d B2 [35,36])))
def l2:=(s (s (d cp [70,71,72]) (i 73 .skip (x 2))) (s (b 3 (s (d fk [73,76,77,78,79,80,81,82,83,84,85,86]) (s (d gv [87,88,89,90,91]) (d IW [92,93])))) (d ea [74,75])))
def c:=(s (d r0 [4]) (s (d r1 [11,12]) (s (s (d r2 [13,14,15,16,17,18]) (i 19 (s (d r3 [0,1,19]) .ret) .skip)) (s (s (d r4 [19,20]) (i 21 (s (s (d r5 [21,22,23,24,25]) (i 26 (s (d r6 [0,1,26]) .ret) .skip)) (s (d r7 [26,27,28]) (s (p r8) (s (s (d r9 [29,30]) (b 0 (w l1))) (s (d y5 [0,1,5,6,34,65,66]) .ret))))) .skip)) (s (d DM [21,67,68,69]) (s (p af) (s (s (p bm) (b 2 (w l2))) (s (d JV [0,1,8,9,10,73,94,95,96,97,98,99]) .ret))))))))
end IZ
def IZ:AFn:=⟨2,IZ.c,[.tmp 4],false⟩
namespace NG
def r0:=[o 4 (.a8 (.c .nil)),o 5 (.a8 (.c (.int .u32 (0))))]
def r1:=[m 9 0,o 10 (.len 9),o 11 (.mk 11 1 4 [(.int .u32 (0))] 10 10),m 6 11]
def r2:=[o 7 (.a8 (.c (.int .u64 (0))))]
def r3:=[m 12 0,o 13 (.len 12),o 14 (.bin .sub 13 (k 1)),m 8 14]
def r4:=[m 15 8,o 16 (.bin .geq 15 (k 0))]
def r6:=[m 19 7,o 20 (.bin .shl 19 (.c (.int .u64 (32)))),m 21 0,m 22 8,o 23 (.a7 none 1 21 22),o 24 (.ld false 1 23),o 25 (.conv .u64 24),
 o 26 (.bin .or 20 25),m 7 26]
def r7:=[m 27 6,m 28 8,m 29 7,m 30 1,o 31 (.conv .u64 30),o 32 (.bin .quo 29 31),o 33 (.conv .u32 32),o 34 (.a7 none 1 27 28),n (.st 1 34 33)]
def r8:=[m 35 7,m 36 1,o 37 (.conv .u64 36),o 38 (.bin .rem 35 37),m 7 38]
def r5:=[m 17 8,o 18 (.bin .sub 17 (k 1)),m 8 18]
def r9:=[m 39 6,o 40 (.call 101 [39]),m 41 7,o 42 (.conv .u32 41),m 4 40,m 5 42]
def l1:=(s (s (d r4 [15]) (i 16 .skip (x 0))) (s (b 1 (s (d r6 [16,19,20,21,22,23,24,25,26]) (s (d r7 [27,28,29,30,31,32,33,34]) (d r8 [35,36,37,38])))) (d r5 [17,18])))
def c:=(s (d r0 [4,5]) (s (d r1 [9,10,11]) (s (p r2) (s (s (d r3 [12,13,14]) (b 0 (w l1))) (s (d r9 [0,1,6,7,8,16,39,40,41,42]) .ret)))))
end NG
def NG:AFn:=⟨2,NG.c,[.tmp 4,.tmp 5],false⟩
namespace DN
def r0:=[o 4 (.a8 (.c .nil)),o 5 (.a8 (.c .nil)),o 6 (.a8 (k 0))]
def r1:=[m 27 0,o 28 (.call 101 [27]),m 29 1,o 30 (.call 101 [29]),m 0 28,m 1 30]
def r2:=[m 31 1,o 32 (.len 31),o 33 (.bin .eql 32 (k 0))]
def r3:=[o 4 (.a8 (.c .nil)),o 5 (.a8 (.c .nil)),o 6 (.a8 (k 3))]
def r4:=[m 34 1,o 35 (.len 34),o 36 (.bin .eql 35 (k 1))]
def r5:=[m 38 0,m 39 1,o 40 (.a7 none 1 39 (k 0)),o 41 (.ld false 1 40),o 42 (.call 108 [38,41]),m 37 42,o 43 (.ext 37 0),o 44 (.ext 37 1),m 7 43,m 8 44]
def r6:=[m 45 7,m 46 8,o 47 (.b8 47 1 [46]),o 48 (.call 101 [47]),m 4 45,m 5 48,o 6 (.a8 (k 0))]
def r7:=[m 49 0,m 50 1,o 51 (.call 102 [49,50]),o 52 (.bin .lss 51 (k 0))]
def r8:=[m 53 0,o 4 (.a8 (.c .nil)),m 5 53,o 6 (.a8 (k 0))]
def r9:=[m 54 1,m 55 1,o 56 (.len 55),o 57 (.bin .sub 56 (k 1)),o 58 (.bz 1 54 (some 57) none),o 59 (.call 106 [58]),o 60 (.bin .sub (k 32) 59),m 9 60]
def BX:=[m 61 0,m 62 9,o 63 (.e9 107 [61,62]),m 64 1,m 65 9,o 66 (.call 107 [64,65]),m 10 63,m 11 66]
def B2:=[m 67 10,o 68 (.b8 68 1 [(.c (.int .u32 (0)))]),o 69 (.app 69 1 4 67 68),m 10 69]
def s8:=[m 70 10,o 71 (.len 70),m 72 0,o 73 (.len 72),o 74 (.bin .add 73 (k 1)),o 75 (.bin .lss 71 74)]
def CO:=[m 76 10,o 77 (.b8 77 1 [(.c (.int .u32 (0)))]),o 78 (.app 78 1 4 76 77),m 10 78]
def w6:=[m 79 11,o 80 (.len 79),m 12 80]
def w7:=[m 81 10,o 82 (.len 81),m 83 12,o 84 (.bin .sub 82 83),o 85 (.mk 85 1 4 [(.int .u32 (0))] 84 84),m 13 85]
def y5:=[m 86 10,o 87 (.len 86),m 88 12,o 89 (.bin .sub 87 88),o 90 (.bin .sub 89 (k 1)),m 14 90]
def DM:=[m 91 14,o 92 (.bin .geq 91 (k 0))]
def bm:=[m 95 10,m 96 14,m 97 12,o 98 (.bin .add 96 97),o 99 (.a7 none 1 95 98),o 100 (.ld false 1 99),o 101 (.conv .u64 100),
 o 102 (.bin .shl 101 (.c (.int .u64 (32)))),m 103 10,m 104 14,m 105 12,o 106 (.bin .add 104 105),o 107 (.bin .sub 106 (k 1)),
 o 108 (.a7 none 1 103 107),o 109 (.ld false 1 108),o 110 (.conv .u64 109),o 111 (.bin .or 102 110),m 15 111]
def cp:=[m 112 15,m 113 11,m 114 12,o 115 (.bin .sub 114 (k 1)),o 116 (.a7 none 1 113 115),o 117 (.ld false 1 116),o 118 (.conv .u64 117),
 o 119 (.bin .quo 112 118),m 16 119]
def ea:=[m 120 15,m 121 11,m 122 12,o 123 (.bin .sub 122 (k 1)),o 124 (.a7 none 1 121 123),o 125 (.ld false 1 124),o 126 (.conv .u64 125),
 o 127 (.bin .rem 120 126),m 17 127]
def fk:=[m 128 16,o 129 (.bin .geq 128 (.c (.int .u64 (4294967296)))),m 130 129,g 131 130 false (.a8 16),g 132 130 false (.a8 11),g 133 130 false (.a8 12),
 g 134 130 false (.bin .sub 133 (k 2)),g 135 130 false (.a7 none 1 132 134),g 136 130 false (.ld false 1 135),g 137 130 false (.conv .u64 136),
 g 138 130 false (.bin .mul 131 137),g 139 130 false (.a8 17),g 140 130 false (.bin .shl 139 (.c (.int .u64 (32)))),g 141 130 false (.a8 10),
 g 142 130 false (.a8 14),g 143 130 false (.a8 12),g 144 130 false (.bin .add 142 143),g 145 130 false (.bin .sub 144 (k 2)),
 g 146 130 false (.a7 none 1 141 145),g 147 130 false (.ld false 1 146),g 148 130 false (.conv .u64 147),g 149 130 false (.bin .or 140 148),
 g 150 130 false (.bin .gtr 138 149),o 151 (.pick 130 (.c (.bool true)) 150)]
def gv:=[m 152 16,o 153 (.bin .sub 152 (.c (.int .u64 (1)))),m 16 153]
def IW:=[m 154 17,m 155 11,m 156 12,o 157 (.bin .sub 156 (k 1)),o 158 (.a7 none 1 155 157),o 159 (.ld false 1 158),o 160 (.conv .u64 159),
 o 161 (.bin .add 154 160),m 17 161]
def JV:=[m 162 17,o 163 (.bin .geq 162 (.c (.int .u64 (4294967296))))]
def SA:=[o 18 (.a8 (.c (.int .u64 (0)))),o 19 (.a8 (.c (.int .u64 (0))))]
def fG:=[o 20 (.a8 (k 0))]
def fH:=[m 164 20,m 165 12,o 166 (.bin .lss 164 165)]
def Fb:=[m 169 19,m 170 16,m 171 11,m 172 20,o 173 (.a7 none 1 171 172),o 174 (.ld false 1 173),o 175 (.conv .u64 174),o 176 (.bin .mul 170 175),
 o 177 (.bin .add 169 176),m 19 177]
def Fc:=[m 178 19,o 179 (.bin .and 178 (.c (.int .u64 (4294967295)))),m 180 18,o 181 (.bin .add 179 180),m 21 181]
def r32:=[m 182 19,o 183 (.bin .shr 182 (.c (.int .u64 (32)))),m 19 183]
def r33:=[m 184 10,m 185 20,m 186 14,o 187 (.bin .add 185 186),o 188 (.a7 none 1 184 187),o 189 (.ld false 1 188),o 190 (.conv .u64 189),m 22 190]
def r34:=[o 18 (.a8 (.c (.int .u64 (0))))]
def r35:=[m 191 22,m 192 21,o 193 (.bin .lss 191 192)]
def r36:=[m 194 22,o 195 (.bin .add 194 (.c (.int .u64 (4294967296)))),m 22 195]
def r37:=[o 18 (.a8 (.c (.int .u64 (1))))]
def r38:=[m 196 10,m 197 20,m 198 14,o 199 (.bin .add 197 198),m 200 22,m 201 21,o 202 (.bin .sub 200 201),o 203 (.conv .u32 202),o 204 (.a7 none 1 196 199),
 n (.st 1 204 203)]
def fI:=[m 167 20,o 168 (.bin .add 167 (k 1)),m 20 168]
def Mg:=[m 205 19,m 206 18,o 207 (.bin .add 205 206),m 23 207]
def Mh:=[m 208 10,m 209 14,m 210 12,o 211 (.bin .add 209 210),o 212 (.a7 none 1 208 211),o 213 (.ld false 1 212),o 214 (.conv .u64 213),m 24 214]
def Mi:=[o 18 (.a8 (.c (.int .u64 (0))))]
def Mj:=[m 215 24,m 216 23,o 217 (.bin .lss 215 216)]
def Mk:=[m 218 24,o 219 (.bin .add 218 (.c (.int .u64 (4294967296)))),m 24 219]
def Ml:=[o 18 (.a8 (.c (.int .u64 (1))))]
def Mm:=[m 220 10,m 221 14,m 222 12,o 223 (.bin .add 221 222),m 224 24,m 225 23,o 226 (.bin .sub 224 225),o 227 (.conv .u32 226),o 228 (.a7 none 1 220 223),
 n (.st 1 228 227)]
def Mn:=[m 229 18,o 230 (.bin .eql 229 (.c (.int .u64 (1))))]
def Mo:=[m 231 16,o 232 (.bin .sub 231 (.c (.int .u64 (1)))),m 16 232]
def Mp:=[o 25 (.a8 (.c (.int .u64 (0))))]
def Mq:=[o 26 (.a8 (k 0))]
def r50:=[m 233 26,m 234 12,o 235 (.bin .lss 233 234)]
def r52:=[m 238 25,m 239 10,m 240 26,m 241 14,o 242 (.bin .add 240 241),o 243 (.a7 none 1 239 242),o 244 (.ld false 1 243),o 245 (.conv .u64 244),m 246 11,
 m 247 26,o 248 (.a7 none 1 246 247),o 249 (.ld false 1 248),o 250 (.conv .u64 249),o 251 (.bin .add 245 250),o 252 (.bin .add 238 251),m 25 252]
def r53:=[m 253 10,m 254 26,m 255 14,o 256 (.bin .add 254 255),m 257 25,o 258 (.conv .u32 257),o 259 (.a7 none 1 253 256),n (.st 1 259 258)]
def r54:=[m 260 25,o 261 (.bin .shr 260 (.c (.int .u64 (32)))),m 25 261]
def r51:=[m 236 26,o 237 (.bin .add 236 (k 1)),m 26 237]
def Mr:=[m 262 10,m 263 14,m 264 12,o 265 (.bin .add 263 264),o 266 (.a7 none 1 262 265),o 267 (.ld false 1 266),m 268 25,o 269 (.conv .u32 268),
 o 270 (.bin .add 267 269),o 271 (.a7 none 1 262 265),n (.st 1 271 270)]
def Mt:=[m 272 13,m 273 14,m 274 16,o 275 (.conv .u32 274),o 276 (.a7 none 1 272 273),n (.st 1 276 275)]
def af:=[m 93 14,o 94 (.bin .sub 93 (k 1)),m 14 94]
def Jk:=[m 277 13,o 278 (.call 101 [277]),m 279 10,m 280 12,o 281 (.bz 1 279 none (some 280)),m 282 9,o 283 (.un .neg 282),o 284 (.call 107 [281,283]),m 4 278,
 m 5 284,o 6 (.a8 (k 0))]
def l1:=(s (s (d s8 [70,71,72,73,74]) (i 75 .skip (x 0))) (b 1 (d CO [75,76,77,78])))
def l3:=(s (s (e fk [128,129,130,131,132,133,134,135,136,137,138,139,140,141,142,143,144,145,146,147,148,149,150,163]) (i 151 .skip (x 4))) (b 5 (s (d gv [151,152,153]) (s (d IW [154,155,156,157,158,159,160,161]) (s (d JV [162]) (i 163 (x 4) .skip))))))
def l4:=(s (s (d fH [164,165]) (i 166 .skip (x 6))) (s (b 7 (s (d Fb [166,169,170,171,172,173,174,175,176,177]) (s (d Fc [18,178,179,180,181]) (s (d r32 [182,183]) (s (d r33 [184,185,186,187,188,189,190]) (s (p r34) (s (s (d r35 [191,192]) (i 193 (s (d r36 [18,193,194,195]) (p r37)) .skip)) (d r38 [21,22,193,196,197,198,199,200,201,202,203,204])))))))) (d fI [167,168])))
def l5:=(s (s (d r50 [233,234]) (i 235 .skip (x 8))) (s (b 9 (s (e r52 [235,238,239,240,241,242,243,244,245,246,247,248,249,250,251,252]) (s (d r53 [253,254,255,256,257,258,259]) (d r54 [260,261])))) (d r51 [236,237])))
def l2:=(s (s (d DM [91]) (i 92 .skip (x 2))) (s (b 3 (s (e bm [92,95,96,97,98,99,100,101,102,103,104,105,106,107,108,109,110,111]) (s (d cp [112,113,114,115,116,117,118,119]) (s (d ea [15,120,121,122,123,124,125,126,127]) (s (b 4 (w l3)) (s (d SA [17,151,163]) (s (s (p fG) (b 6 (w l4))) (s (d Mg [18,19,20,166,205,206,207]) (s (d Mh [208,209,210,211,212,213,214]) (s (p Mi) (s (s (d Mj [215,216]) (i 217 (s (d Mk [18,217,218,219]) (p Ml)) .skip)) (s (d Mm [23,24,217,220,221,222,223,224,225,226,227,228]) (s (s (d Mn [18,229]) (i 230 (s (d Mo [230,231,232]) (s (p Mp) (s (s (p Mq) (b 8 (w l5))) (d Mr [25,26,235,262,263,264,265,266,267,268,269,270,271])))) .skip)) (d Mt [16,230,272,273,274,275,276])))))))))))))) (d af [93,94])))
def c:=(s (d r0 [4,5,6]) (s (d r1 [27,28,29,30]) (s (s (d r2 [31,32]) (i 33 (s (d r3 [0,1,33]) .ret) .skip)) (s (s (d r4 [33,34,35]) (i 36 (s (d r5 [0,1,36,37,38,39,40,41,42,43,44]) (s (d r6 [7,8,45,46,47,48]) .ret)) .skip)) (s (s (d r7 [36,49,50,51]) (i 52 (s (d r8 [0,1,52,53]) .ret) .skip)) (s (d r9 [52,54,55,56,57,58,59,60]) (s (d BX [1,61,62,63,64,65,66]) (s (d B2 [67,68,69]) (s (b 0 (w l1)) (s (d w6 [0,75,79,80]) (s (d w7 [81,82,83,84,85]) (s (s (d y5 [86,87,88,89,90]) (b 2 (w l2))) (s (e Jk [9,10,11,12,13,14,92,277,278,279,280,281,282,283,284]) .ret)))))))))))))
end DN
def DN:AFn:=⟨2,DN.c,[.tmp 4,.tmp 5,.tmp 6],false⟩
namespace NE
def r0:=[o 4 (.a8 (.c .nil))]
def r1:=[m 8 0,o 9 (.call 101 [8]),m 10 1,o 11 (.call 101 [10]),m 0 9,m 1 11]
def r2:=[m 12 1,o 13 (.len 12),o 14 (.bin .gtr 13 (k 0))]
def r3:=[m 16 0,m 17 1,o 18 (.call 109 [16,17]),m 15 18,o 19 (.ext 15 0),o 20 (.ext 15 1),o 21 (.ext 15 2),m 5 19,m 6 20,m 7 21]
def r4:=[m 22 1,m 23 6,m 0 22,m 1 23]
def r5:=[m 24 0,m 4 24]
def l1:=(s (s (d r2 [12,13]) (i 14 .skip (x 0))) (b 1 (s (d r3 [0,5,7,14,15,16,17,18,19,20,21]) (d r4 [6,22,23]))))
def c:=(s (d r0 [4]) (s (d r1 [8,9,10,11]) (s (b 0 (w l1)) (s (d r5 [0,1,14,24]) .ret))))
end NE
def NE:AFn:=⟨2,NE.c,[.tmp 4],false⟩
namespace NR
def r0:=[o 1 (.box 1 0),o 2 (.alloc 2 [(.bool false),.nil])]
def r1:=[o 4 (.a5 1 1),o 5 (.ld false 1 4),o 6 (.call 101 [5]),m 3 6]
def r2:=[o 7 (.a5 1 0),o 8 (.ld false 1 7),m 9 8,g 10 9 true (.a8 3),g 11 9 true (.len 10),g 12 9 true (.bin .gtr 11 (k 0)),
 o 13 (.pick 9 12 (.c (.bool false))),m 14 3,o 15 (.build [(.bool false),.nil] [(0,1,13),(1,1,14)]),n (.st 2 2 15)]
def c:=(s (d r0 [0]) (s (d r1 [4,5,6]) (s (d r2 [1,3,7,8,9,10,11,12,13,14,15]) .ret)))
end NR
def NR:AFn:=⟨1,NR.c,[.cell 2 true 2],false⟩
namespace NN
def r0:=[o 2 (.alloc 2 [(.bool false),.nil])]
def r1:=[m 4 0,o 5 (.bin .lss 4 (k 0))]
def r2:=[m 6 0,o 7 (.bin .add 6 (k 1)),o 8 (.un .neg 7),o 9 (.conv .u64 8),o 10 (.bin .add 9 (.c (.int .u64 (1)))),m 3 10]
def r3:=[m 11 3,o 12 (.conv .u32 11),m 13 3,o 14 (.bin .shr 13 (.c (.int .u64 (32)))),o 15 (.conv .u32 14),o 16 (.b8 16 1 [12,15]),
 o 17 (.build [(.bool false),.nil] [(0,1,(.c (.bool true))),(1,1,16)]),o 18 (.call 111 [17]),n (.st 2 2 18)]
def r4:=[m 19 0,o 20 (.conv .u32 19),m 21 0,o 22 (.conv .u64 21),o 23 (.bin .shr 22 (.c (.int .u64 (32)))),o 24 (.conv .u32 23),o 25 (.b8 25 1 [20,24]),
 o 26 (.build [(.bool false),.nil] [(1,1,25)]),o 27 (.call 111 [26]),n (.st 2 2 27)]
def c:=(s (p r0) (s (s (d r1 [4]) (i 5 (s (d r2 [0,5,6,7,8,9,10]) (s (d r3 [3,11,12,13,14,15,16,17,18]) .ret)) .skip)) (s (d r4 [0,5,19,20,21,22,23,24,25,26,27]) .ret)))
end NN
def NN:AFn:=⟨1,NN.c,[.cell 2 true 2],false⟩
namespace NP
def r0:=[o 1 (.box 1 0),o 2 (.a8 (k 0))]
def r1:=[o 3 (.ld true 2 1),o 4 (.call 111 [3]),n (.st 2 1 4)]
def r2:=[o 6 (.a5 1 1),o 7 (.ld false 1 6),o 8 (.len 7),o 9 (.bin .eql 8 (k 0)),m 5 9]
def r3:=[o 2 (.a8 (k 0))]
def r4:=[o 11 (.a5 1 0),o 12 (.ld false 1 11),m 10 12]
def r5:=[o 2 (.a8 (k (-1)))]
def r6:=[o 2 (.a8 (k 1))]
def c:=(s (d r0 [0,2]) (s (d r1 [3,4]) (s (b 0 (s (d r2 [6,7,8,9]) (i 5 (s (d r3 [1,5]) .ret) (s (d r4 [1,5,11,12]) (i 10 (s (d r5 [10]) .ret) .skip))))) (s (d r6 [10]) .ret))))
end NP
def NP:AFn:=⟨1,NP.c,[.tmp 2],false⟩
namespace NM
def r0:=[o 1 (.box 1 0),o 2 (.alloc 2 [(.bool false),.nil])]
def r1:=[o 3 (.ld true 2 1),o 4 (.call 111 [3]),n (.st 2 1 4)]
def r2:=[o 5 (.a5 1 0),o 6 (.ld false 1 5),o 7 (.un .not 6),m 8 7,g 9 8 true (.a5 1 1),g 10 8 true (.ld false 1 9),g 11 8 true (.len 10),
 g 12 8 true (.bin .gtr 11 (k 0)),o 13 (.pick 8 12 (.c (.bool false))),o 14 (.a5 1 0),n (.st 1 14 13)]
def r3:=[o 15 (.ld true 2 1),n (.st 2 2 15)]
def c:=(s (d r0 [0]) (s (d r1 [3,4]) (s (d r2 [5,6,7,8,9,10,11,12,13,14]) (s (d r3 [1,15]) .ret))))
end NM
def NM:AFn:=⟨1,NM.c,[.cell 2 true 2],false⟩
namespace NH
def r0:=[o 2 (.box 2 0),o 3 (.box 3 1),o 4 (.alloc 4 [(.bool false),.nil])]
def r1:=[o 5 (.ld true 2 2),o 6 (.call 111 [5]),o 7 (.ld true 2 3),o 8 (.call 111 [7]),n (.st 2 2 6),n (.st 2 3 8)]
def r2:=[o 9 (.a5 2 0),o 10 (.ld false 1 9),o 11 (.a5 3 0),o 12 (.ld false 1 11),o 13 (.beq false 10 12)]
def r3:=[o 14 (.a5 2 0),o 15 (.ld false 1 14),o 16 (.a5 2 1),o 17 (.ld false 1 16),o 18 (.a5 3 1),o 19 (.ld false 1 18),o 20 (.call 103 [17,19]),
 o 21 (.build [(.bool false),.nil] [(0,1,15),(1,1,20)]),o 22 (.call 111 [21]),n (.st 2 4 22)]
def r4:=[o 23 (.a5 2 1),o 24 (.ld false 1 23),o 25 (.a5 3 1),o 26 (.ld false 1 25),o 27 (.call 102 [24,26]),o 28 (.bin .geq 27 (k 0))]
def r5:=[o 29 (.a5 2 0),o 30 (.ld false 1 29),o 31 (.a5 2 1),o 32 (.ld false 1 31),o 33 (.a5 3 1),o 34 (.ld false 1 33),o 35 (.call 104 [32,34]),
 o 36 (.build [(.bool false),.nil] [(0,1,30),(1,1,35)]),o 37 (.call 111 [36]),n (.st 2 4 37)]
def r6:=[o 38 (.a5 3 0),o 39 (.ld false 1 38),o 40 (.a5 3 1),o 41 (.ld false 1 40),o 42 (.a5 2 1),o 43 (.ld false 1 42),o 44 (.call 104 [41,43]),
 o 45 (.build [(.bool false),.nil] [(0,1,39),(1,1,44)]),o 46 (.call 111 [45]),n (.st 2 4 46)]
def c:=(s (d r0 [0,1]) (s (e r1 [5,6,7,8]) (s (s (d r2 [9,10,11,12]) (i 13 (s (e r3 [2,3,13,14,15,16,17,18,19,20,21,22]) .ret) .skip)) (s (s (d r4 [13,23,24,25,26,27]) (i 28 (s (e r5 [2,3,28,29,30,31,32,33,34,35,36,37]) .ret) .skip)) (s (e r6 [2,3,28,38,39,40,41,42,43,44,45,46]) .ret)))))
end NH
def NH:AFn:=⟨2,NH.c,[.cell 4 true 2],false⟩
namespace NQ
def r0:=[o 2 (.box 2 0),o 3 (.box 3 1),o 4 (.alloc 4 [(.bool false),.nil])]
def r1:=[o 5 (.ld true 2 2),o 6 (.ld true 2 3),o 7 (.call 114 [6]),o 8 (.call 115 [5,7]),n (.st 2 4 8)]
def c:=(s (d r0 [0,1]) (s (e r1 [2,3,5,6,7,8]) .ret))
end NQ
def NQ:AFn:=⟨2,NQ.c,[.cell 4 true 2],false⟩
namespace NI
def r0:=[o 2 (.box 2 0),o 3 (.box 3 1),o 4 (.a8 (k 0))]
def r1:=[o 5 (.ld true 2 2),o 6 (.ld true 2 3),o 7 (.call 116 [5,6]),o 8 (.call 113 [7]),m 4 8]
def c:=(s (d r0 [0,1,4]) (s (d r1 [2,3,5,6,7,8]) .ret))
end NI
def NI:AFn:=⟨2,NI.c,[.tmp 4],false⟩
namespace NL
def r0:=[o 2 (.box 2 0),o 3 (.box 3 1),o 4 (.alloc 4 [(.bool false),.nil])]
def r1:=[o 5 (.a5 2 0),o 6 (.ld false 1 5),o 7 (.a5 3 0),o 8 (.ld false 1 7),o 9 (.beq true 6 8),o 10 (.a5 2 1),o 11 (.ld false 1 10),o 12 (.a5 3 1),
 o 13 (.ld false 1 12),o 14 (.call 105 [11,13]),o 15 (.build [(.bool false),.nil] [(0,1,9),(1,1,14)]),o 16 (.call 111 [15]),n (.st 2 4 16)]
def c:=(s (d r0 [0,1]) (s (e r1 [2,3,5,6,7,8,9,10,11,12,13,14,15,16]) .ret))
end NL
def NL:AFn:=⟨2,NL.c,[.cell 4 true 2],false⟩
namespace NJ
def r0:=[o 2 (.box 2 0),o 3 (.box 3 1),o 4 (.alloc 4 [(.bool false),.nil]),o 5 (.alloc 5 [(.bool false),.nil]),o 6 (.a8 (k 0))]
def r1:=[o 10 (.ld true 2 2),o 11 (.call 111 [10]),o 12 (.ld true 2 3),o 13 (.call 111 [12]),n (.st 2 2 11),n (.st 2 3 13)]
def r2:=[o 15 (.a5 2 1),o 16 (.ld false 1 15),o 17 (.a5 3 1),o 18 (.ld false 1 17),o 19 (.call 109 [16,18]),m 14 19,o 20 (.ext 14 0),o 21 (.ext 14 1),
 o 22 (.ext 14 2),m 7 20,m 8 21,m 9 22]
def r3:=[m 23 9,o 24 (.bin .neq 23 (k 0))]
def r4:=[o 25 (.build [(.bool false),.nil] []),o 26 (.build [(.bool false),.nil] []),m 27 9,n (.st 2 4 25),n (.st 2 5 26),m 6 27]
def r5:=[o 28 (.a5 2 0),o 29 (.ld false 1 28),m 30 29,g 31 30 true (.a8 8),g 32 30 true (.len 31),g 33 30 true (.bin .gtr 32 (k 0)),
 o 34 (.pick 30 33 (.c (.bool false)))]
def r6:=[m 35 7,o 36 (.b8 36 1 [(.c (.int .u32 (1)))]),o 37 (.call 103 [35,36]),o 38 (.a5 3 1),q 39 [36] (.ld false 1 38),m 40 8,
 o 41 (.call 104 [39,40]),m 7 37,m 8 41]
def r7:=[o 42 (.a5 2 0),o 43 (.ld false 1 42),o 44 (.a5 3 0),o 45 (.ld false 1 44),o 46 (.beq true 43 45),m 47 7,
 o 48 (.build [(.bool false),.nil] [(0,1,46),(1,1,47)]),o 49 (.call 111 [48]),m 50 8,o 51 (.build [(.bool false),.nil] [(1,1,50)]),n (.st 2 4 49),
 n (.st 2 5 51),o 6 (.a8 (k 0))]
def c:=(s (d r0 [0,1,6]) (s (e r1 [10,11,12,13]) (s (d r2 [14,15,16,17,18,19,20,21,22]) (s (s (d r3 [23]) (i 24 (s (d r4 [2,3,7,8,9,24,25,26,27]) .ret) .skip)) (s (s (d r5 [9,24,28,29,30,31,32,33]) (i 34 (e r6 [34,35,36,37,38,39,40,41]) .skip)) (s (d r7 [2,3,7,8,34,42,43,44,45,46,47,48,49,50,51]) .ret))))))
end NJ
def NJ:AFn:=⟨2,NJ.c,[.cell 4 true 2,.cell 5 true 2,.tmp 6],false⟩
namespace NK
def r0:=[o 2 (.box 2 0),o 3 (.box 3 1),o 4 (.alloc 4 [(.bool false),.nil])]
def r1:=[o 5 (.a5 2 1),o 6 (.ld false 1 5),o 7 (.a5 3 1),o 8 (.ld false 1 7),o 9 (.call 110 [6,8]),o 10 (.build [(.bool false),.nil] [(1,1,9)]),
 n (.st 2 4 10)]
def c:=(s (d r0 [0,1]) (s (d r1 [2,3,5,6,7,8,9,10]) .ret))
end NK
def NK:AFn:=⟨2,NK.c,[.cell 4 true 2],false⟩
namespace I0
def r0:=[o 2 (.box 2 0),o 3 (.box 3 1),o 4 (.alloc 4 [(.bool false),.nil,.nil])]
def r1:=[o 12 (.ld true 2 2),o 13 (.call 113 [12]),o 14 (.bin .eql 13 (k 0)),m 15 14,g 16 15 false (.ld true 2 3),g 17 15 false (.call 113 [16]),
 g 18 15 false (.bin .eql 17 (k 0)),o 19 (.pick 15 (.c (.bool true)) 18)]
def r2:=[o 20 (.b8 20 1 [(.c (.int .u32 (1)))]),o 21 (.build [(.bool false),.nil,.nil] [(2,1,20)]),n (.st 3 4 21)]
def r3:=[o 22 (.ld true 2 2),o 23 (.ld true 2 3),o 24 (.call 120 [22,23]),o 5 (.alloc 5 [(.bool false),.nil]),n (.st 2 5 24)]
def r4:=[o 26 (.ld true 2 2),o 27 (.ld true 2 5),o 28 (.call 119 [26,27]),m 25 28,o 29 (.ext 25 0),o 30 (.ext 25 1),o 31 (.ext 25 2),
 o 6 (.alloc 6 [(.bool false),.nil]),o 7 (.alloc 7 [(.bool false),.nil]),n (.st 2 6 29),n (.st 2 7 30),m 8 31]
def r5:=[o 33 (.ld true 2 3),o 34 (.ld true 2 5),o 35 (.call 119 [33,34]),m 32 35,o 36 (.ext 32 0),o 37 (.ext 32 1),o 38 (.ext 32 2),
 o 9 (.alloc 9 [(.bool false),.nil]),o 10 (.alloc 10 [(.bool false),.nil]),n (.st 2 9 36),n (.st 2 10 37),m 11 38]
def r6:=[o 39 (.a5 9 0),o 40 (.ld false 1 39)]
def r7:=[o 41 (.ld true 2 6),o 42 (.call 114 [41]),n (.st 2 6 42)]
def r8:=[o 43 (.ld true 2 6),o 44 (.a5 9 1),o 45 (.ld false 1 44),o 46 (.build [(.bool false),.nil,.nil] [(0,2,43),(2,1,45)]),n (.st 3 4 46)]
def c:=(s (d r0 [0,1]) (s (s (d r1 [12,13,14,15,16,17,18]) (i 19 (s (d r2 [2,3,19,20,21]) .ret) .skip)) (s (d r3 [19,22,23,24]) (s (d r4 [2,7,8,25,26,27,28,29,30,31]) (s (d r5 [3,5,10,11,32,33,34,35,36,37,38]) (s (s (d r6 [39]) (i 40 (d r7 [40,41,42]) .skip)) (s (d r8 [6,9,40,43,44,45,46]) .ret)))))))
end I0
def I0:AFn:=⟨2,I0.c,[.cell 4 true 3],false⟩
namespace J0
def r0:=[o 1 (.box 1 0),o 2 (.alloc 2 [(.bool false),.nil]),o 3 (.alloc 3 [(.bool false),.nil])]
def r1:=[o 5 (.a5 1 2),o 6 (.ld false 1 5),o 7 (.call 101 [6]),o 8 (.build [(.bool false),.nil] [(1,1,7)]),o 4 (.alloc 4 [(.bool false),.nil]),n (.st 2 4 8)]
def r2:=[o 9 (.a5 4 1),o 10 (.ld false 1 9),o 11 (.len 10),o 12 (.bin .eql 11 (k 0))]
def r3:=[o 13 (.build [(.bool false),.nil] []),o 14 (.b8 14 1 [(.c (.int .u32 (1)))]),o 15 (.build [(.bool false),.nil] [(1,1,14)]),n (.st 2 2 13),
 n (.st 2 3 15)]
def r4:=[o 16 (.a5 1 0),o 17 (.ld true 2 16),q 18 [2] (.ld true 2 4),n (.kj 2 2 2 17),n (.st 2 3 18)]
def c:=(s (d r0 [0]) (s (d r1 [5,6,7,8]) (s (s (d r2 [9,10,11]) (i 12 (s (d r3 [1,4,12,13,14,15]) .ret) .skip)) (s (e r4 [1,4,12,16,17,18]) .ret))))
end J0
def J0:AFn:=⟨1,J0.c,[.cell 2 true 2,.cell 3 true 2],false⟩
namespace NW
def r0:=[o 1 (.box 1 0),o 2 (.alloc 2 [(.bool false),.nil,.nil])]
def r1:=[o 6 (.ld true 3 1),o 7 (.call 122 [6]),m 5 7,o 8 (.ext 5 0),o 9 (.ext 5 1),o 3 (.alloc 3 [(.bool false),.nil]),o 4 (.alloc 4 [(.bool false),.nil]),
 n (.st 2 3 8),n (.st 2 4 9)]
def r2:=[o 10 (.ld true 2 3),o 11 (.ld true 2 4),o 12 (.call 121 [10,11]),n (.st 3 2 12)]
def c:=(s (d r0 [0]) (s (d r1 [1,5,6,7,8,9]) (s (d r2 [3,4,10,11,12]) .ret)))
end NW
def NW:AFn:=⟨1,NW.c,[.cell 2 true 3],false⟩
namespace NV
def r0:=[o 2 (.alloc 2 [(.bool false),.nil,.nil])]
def r1:=[m 3 0,o 4 (.call 112 [3]),o 5 (.b8 5 1 [(.c (.int .u32 (1)))]),o 6 (.build [(.bool false),.nil,.nil] [(0,2,4),(2,1,5)]),n (.st 3 2 6)]
def c:=(s (p r0) (s (d r1 [0,3,4,5,6]) .ret))
end NV
def NV:AFn:=⟨1,NV.c,[.cell 2 true 3],false⟩
namespace NT
def r0:=[o 4 (.alloc 4 [(.bool false),.nil,.nil])]
def r1:=[m 5 0,o 6 (.call 112 [5]),m 7 1,o 8 (.call 112 [7]),o 9 (.call 121 [6,8]),n (.st 3 4 9)]
def c:=(s (p r0) (s (d r1 [0,1,5,6,7,8,9]) .ret))
end NT
def NT:AFn:=⟨2,NT.c,[.cell 4 true 3],false⟩
namespace NS
def r0:=[o 2 (.box 2 0),o 3 (.box 3 1),o 4 (.a8 (k 0))]
def r1:=[o 10 (.ld true 3 2),o 11 (.call 122 [10]),m 9 11,o 12 (.ext 9 0),o 13 (.ext 9 1),o 5 (.alloc 5 [(.bool false),.nil]),
 o 6 (.alloc 6 [(.bool false),.nil]),n (.st 2 5 12),n (.st 2 6 13)]
def r2:=[o 15 (.ld true 3 3),o 16 (.call 122 [15]),m 14 16,o 17 (.ext 14 0),o 18 (.ext 14 1),o 7 (.alloc 7 [(.bool false),.nil]),
 o 8 (.alloc 8 [(.bool false),.nil]),n (.st 2 7 17),n (.st 2 8 18)]
def r3:=[o 19 (.ld true 2 5),o 20 (.ld true 2 8),o 21 (.call 118 [19,20]),o 22 (.ld true 2 7),o 23 (.ld true 2 6),o 24 (.call 118 [22,23]),
 o 25 (.call 117 [21,24]),m 4 25]
def c:=(s (d r0 [0,1,4]) (s (d r1 [2,9,10,11,12,13]) (s (d r2 [3,14,15,16,17,18]) (s (e r3 [5,6,7,8,19,20,21,22,23,24,25]) .ret))))
end NS
def NS:AFn:=⟨2,NS.c,[.tmp 4],false⟩
structure c8 (L:Lib):Prop where
 HV:L 101=some F.HV
 ND:L 102=some F.ND
 NB:L 103=some F.NB
 JJ:L 104=some F.JJ
 NF:L 105=some F.NF
 NC:L 106=some F.NC
 IZ:L 107=some F.IZ
 NG:L 108=some F.NG
 DN:L 109=some F.DN
 NE:L 110=some F.NE
 NR:L 111=some F.NR
 NN:L 112=some F.NN
 NP:L 113=some F.NP
 NM:L 114=some F.NM
 NH:L 115=some F.NH
 NQ:L 116=some F.NQ
 NI:L 117=some F.NI
 NL:L 118=some F.NL
 NJ:L 119=some F.NJ
 NK:L 120=some F.NK
 I0:L 121=some F.I0
 J0:L 122=some F.J0
 NW:L 123=some F.NW
 NV:L 124=some F.NV
 NT:L 125=some F.NT
 NS:L 127=some F.NS
end Go.b7.F
namespace Go.b7.F
open C
namespace L4
def r0:=[o 1 (.box 1 0),o 2 (.a8 (.c (.bool false)))]
def r1:=[o 6 (.a5 1 0),o 7 (.ld false 1 6),o 8 (.len 7),m 3 8]
def r2:=[m 9 3,o 10 (.bin .gtr 9 (k 64)),m 11 10,g 12 11 false (.a5 1 1),g 13 11 false (.ld false 1 12),g 14 11 false (.len 13),g 15 11 false (.a8 3),
 g 16 11 false (.bin .neq 14 15),o 17 (.pick 11 (.c (.bool true)) 16),m 18 17,g 19 18 false (.a5 1 2),g 20 18 false (.ld false 1 19),
 g 21 18 false (.len 20),g 22 18 false (.a8 3),g 23 18 false (.bin .neq 21 22),o 24 (.pick 18 (.c (.bool true)) 23)]
def r3:=[o 2 (.a8 (.c (.bool false)))]
def r4:=[o 25 (.a5 1 0),o 26 (.ld false 1 25),o 27 (.len 26),o 28 (.a8 (k 0))]
def r5:=[o 29 (.bin .lss 28 27)]
def r6:=[o 30 (.a7 none 1 26 28),o 31 (.ld false 1 30),m 5 31]
def r7:=[m 32 5,o 33 (.len 32),m 34 3,o 35 (.bin .neq 33 34)]
def r8:=[o 2 (.a8 (.c (.bool false)))]
def r9:=[o 36 (.bin .add 28 (k 1)),m 28 36]
def BX:=[o 2 (.a8 (.c (.bool true)))]
def l1:=(s (p r5) (s (i 29 .skip (x 0)) (s (b 1 (s (d r6 [29,30,31]) (s (d r7 [5,32,33,34]) (i 35 (s (d r8 [3,26,27,28,35]) .ret) .skip)))) (d r9 [35,36]))))
def c:=(s (d r0 [0,2]) (s (d r1 [6,7,8]) (s (s (d r2 [9,10,11,12,13,14,15,16,17,18,19,20,21,22,23]) (i 24 (s (d r3 [1,3,24]) .ret) .skip)) (s (s (d r4 [1,24,25]) (b 0 (w l1))) (s (d BX [3,26,27,28,29]) .ret)))))
end L4
def L4:AFn:=⟨1,L4.c,[.tmp 2],false⟩
structure dt (L:Lib):Prop extends a6 L,c8 L where
 L4:L 130=some F.L4
end Go.b7.F

namespace Go.b7.F
open C
namespace LA
def r0:=[o 2 (.a8 (.c (.bool false)))]
def r1:=[m 3 0,o 4 (.bin .geq 3 (k 1)),m 5 4,g 6 5 true (.a8 0),g 7 5 true (.bin .leq 6 (k 3)),o 8 (.pick 5 7 (.c (.bool false))),m 2 8]
def c:=(s (d r0 [2]) (s (d r1 [0,3,4,5,6,7,8]) .ret))
end LA
def LA:AFn:=⟨1,LA.c,[.tmp 2],false⟩
namespace K9
def r0:=[o 1 (.box 1 0),o 2 (.a8 (.c (.bool false)))]
def r1:=[o 3 (.a5 1 0),o 4 (.ld false 1 3),o 5 (.bin .lss 4 (k 4)),m 6 5,g 7 6 false (.a5 1 0),g 8 6 false (.ld false 1 7),g 9 6 false (.bin .gtr 8 (k 24)),
 o 10 (.pick 6 (.c (.bool true)) 9),m 11 10,g 12 11 false (.a5 1 1),g 13 11 false (.ld false 1 12),g 14 11 false (.bin .lss 13 (k 0)),
 o 15 (.pick 11 (.c (.bool true)) 14),m 16 15,g 17 16 false (.a5 1 1),g 18 16 false (.ld false 1 17),g 19 16 false (.a5 1 0),
 g 20 16 false (.ld false 1 19),g 21 16 false (.bin .geq 18 20),o 22 (.pick 16 (.c (.bool true)) 21)]
def r2:=[o 2 (.a8 (.c (.bool false)))]
def r3:=[o 23 (.a5 1 2),o 24 (.ld false 1 23),o 25 (.call 1 [24]),m 26 25,g 27 26 true (.a5 1 3),g 28 26 true (.ld false 1 27),
 g 29 26 true (.bin .eql 28 (k 1)),g 30 26 true (.a8 29),g 31 30 false (.a5 1 3),g 32 30 false (.ld false 1 31),g 33 30 false (.bin .eql 32 (k 2)),
 g 34 26 true (.pick 30 (.c (.bool true)) 33),o 35 (.pick 26 34 (.c (.bool false))),m 2 35]
def c:=(s (d r0 [0,2]) (s (s (d r1 [3,4,5,6,7,8,9,10,11,12,13,14,15,16,17,18,19,20,21]) (i 22 (s (d r2 [1,22]) .ret) .skip)) (s (d r3 [1,22,23,24,25,26,27,28,29,30,31,32,33,34,35]) .ret)))
end K9
def K9:AFn:=⟨1,K9.c,[.tmp 2],false⟩
namespace K8
def r0:=[o 1 (.box 1 0),o 2 (.a8 (k 0))]
def r1:=[o 3 (.ld true 4 1),o 4 (.call 2 [3]),o 5 (.un .not 4)]
def r2:=[o 2 (.a8 (k 0))]
def r3:=[o 6 (.a5 1 0),o 7 (.ld false 1 6),o 8 (.bin .sub 7 (k 1)),o 9 (.bin .shl (k 1) 8),o 10 (.un .neg 9),m 2 10]
def c:=(s (d r0 [0,2]) (s (s (d r1 [3,4]) (i 5 (s (d r2 [1,5]) .ret) .skip)) (s (d r3 [1,5,6,7,8,9,10]) .ret)))
end K8
def K8:AFn:=⟨1,K8.c,[.tmp 2],false⟩
namespace K7
def r0:=[o 1 (.box 1 0),o 2 (.a8 (k 0))]
def r1:=[o 3 (.ld true 4 1),o 4 (.call 2 [3]),o 5 (.un .not 4)]
def r2:=[o 2 (.a8 (k 0))]
def r3:=[o 6 (.a5 1 0),o 7 (.ld false 1 6),o 8 (.bin .sub 7 (k 1)),o 9 (.bin .shl (k 1) 8),o 10 (.bin .sub 9 (k 1)),m 2 10]
def c:=(s (d r0 [0,2]) (s (s (d r1 [3,4]) (i 5 (s (d r2 [1,5]) .ret) .skip)) (s (d r3 [1,5,6,7,8,9,10]) .ret)))
end K7
def K7:AFn:=⟨1,K7.c,[.tmp 2],false⟩
namespace K6
def r0:=[o 2 (.box 2 0),o 4 (.a8 (.c (.bool false)))]
def r1:=[o 5 (.ld true 4 2),o 6 (.call 2 [5]),m 7 6,g 8 7 true (.a8 1),g 9 7 true (.ld true 4 2),g 10 7 true (.call 3 [9]),g 11 7 true (.bin .geq 8 10),
 o 12 (.pick 7 11 (.c (.bool false))),m 13 12,g 14 13 true (.a8 1),g 15 13 true (.ld true 4 2),g 16 13 true (.call 4 [15]),g 17 13 true (.bin .leq 14 16),
 o 18 (.pick 13 17 (.c (.bool false))),m 4 18]
def c:=(s (d r0 [0,4]) (s (d r1 [1,2,5,6,7,8,9,10,11,12,13,14,15,16,17,18]) .ret))
end K6
def K6:AFn:=⟨2,K6.c,[.tmp 4],false⟩
namespace NY
def r0:=[o 6 (.a8 (.c (.bool false)))]
def r1:=[m 7 0,m 8 1,o 9 (.bin .geq 7 8),m 10 9,g 11 10 true (.a8 0),g 12 10 true (.a8 2),g 13 10 true (.bin .leq 11 12),o 14 (.pick 10 13 (.c (.bool false))),
 m 6 14]
def c:=(s (d r0 [6]) (s (d r1 [0,1,2,7,8,9,10,11,12,13,14]) .ret))
end NY
def NY:AFn:=⟨3,NY.c,[.tmp 6],false⟩
namespace NZ
def r0:=[o 1 (.box 1 0),o 2 (.a8 (.c (.bool false)))]
def r1:=[o 3 (.a5 1 0),o 4 (.ld false 1 3),o 5 (.call 10 [4,(k 4),(k 24)]),m 6 5,g 7 6 true (.a5 1 1),g 8 6 true (.ld false 1 7),g 9 6 true (.a5 1 0),
 g 10 6 true (.ld false 1 9),g 11 6 true (.bin .sub 10 (k 1)),g 12 6 true (.call 10 [8,(k 0),11]),o 13 (.pick 6 12 (.c (.bool false))),m 14 13,
 g 15 14 true (.a5 1 2),g 16 14 true (.ld false 1 15),g 17 14 true (.call 10 [16,(k 1),(k 3)]),o 18 (.pick 14 17 (.c (.bool false))),m 19 18,
 g 20 19 true (.a5 1 3),g 21 19 true (.ld false 1 20),g 22 19 true (.call 10 [21,(k 1),(k 2)]),o 23 (.pick 19 22 (.c (.bool false))),m 2 23]
def c:=(s (d r0 [0,2]) (s (d r1 [1,3,4,5,6,7,8,9,10,11,12,13,14,15,16,17,18,19,20,21,22,23]) .ret))
end NZ
def NZ:AFn:=⟨1,NZ.c,[.tmp 2],false⟩
namespace NX
def r0:=[o 1 (.box 1 0),o 2 (.a8 (k 0))]
def r1:=[o 3 (.ld true 4 1),o 4 (.call 11 [3]),o 5 (.un .not 4)]
def r2:=[o 2 (.a8 (k 0))]
def r3:=[o 6 (.a5 1 0),o 7 (.ld false 1 6),o 8 (.bin .sub 7 (k 1)),o 9 (.conv .u64 8),o 10 (.bin .shl (k 1) 9),o 11 (.bin .sub 10 (k 1)),m 2 11]
def c:=(s (d r0 [0,2]) (s (s (d r1 [3,4]) (i 5 (s (d r2 [1,5]) .ret) .skip)) (s (d r3 [1,5,6,7,8,9,10,11]) .ret)))
end NX
def NX:AFn:=⟨1,NX.c,[.tmp 2],false⟩
structure j4 (L:Lib):Prop where
 LA:L 1=some F.LA
 K9:L 2=some F.K9
 K8:L 3=some F.K8
 K7:L 4=some F.K7
 K6:L 5=some F.K6
 NY:L 10=some F.NY
 NZ:L 11=some F.NZ
 NX:L 13=some F.NX
end Go.b7.F

namespace Go.b7.F
open C
namespace L5
def r0:=[o 1 (.box 1 0),o 2 (.a8 (.c (.bool false)))]
def r1:=[o 10 (.a5 1 0),o 11 (.ld true 4 10),o 12 (.call 2 [11]),o 13 (.un .not 12),m 14 13,g 15 14 false (.a5 1 4),g 16 14 false (.ld true 4 15),
 g 17 14 false (.call 2 [16]),g 18 14 false (.un .not 17),o 19 (.pick 14 (.c (.bool true)) 18)]
def r2:=[o 2 (.a8 (.c (.bool false)))]
def r3:=[o 20 (.a5 1 8),o 21 (.ld false 1 20),o 22 (.bin .lss 21 (k 0)),m 23 22,g 24 23 false (.a5 1 8),g 25 23 false (.ld false 1 24),
 g 26 23 false (.bin .gtr 25 (k 64)),o 27 (.pick 23 (.c (.bool true)) 26),m 28 27,g 29 28 false (.a5 1 9),g 30 28 false (.ld false 1 29),
 g 31 28 false (.len 30),g 32 28 false (.bin .gtr 31 (k 64)),o 33 (.pick 28 (.c (.bool true)) 32),m 34 33,g 35 34 false (.a5 1 10),
 g 36 34 false (.ld false 1 35),g 37 34 false (.len 36),g 38 34 false (.a5 1 8),g 39 34 false (.ld false 1 38),g 40 34 false (.bin .neq 37 39),
 o 41 (.pick 34 (.c (.bool true)) 40)]
def r4:=[o 2 (.a8 (.c (.bool false)))]
def r5:=[o 42 (.a5 1 9),o 43 (.ld false 1 42),o 44 (.len 43),o 45 (.a8 (k 0))]
def r6:=[o 46 (.bin .lss 45 44)]
def r7:=[m 47 45,o 48 (.a7 none 1 43 45),o 49 (.ld true 1 48),o 4 (.alloc 4 [.nil]),m 3 47,n (.st 1 4 49)]
def r8:=[o 50 (.a5 4 0),o 51 (.ld false 1 50),o 52 (.len 51),o 53 (.bin .gtr 52 (k 64))]
def r9:=[o 2 (.a8 (.c (.bool false)))]
def BX:=[o 54 (.a5 4 0),o 55 (.ld false 1 54),o 56 (.len 55),o 57 (.a8 (k 0))]
def B2:=[o 58 (.bin .lss 57 56)]
def s8:=[o 59 (.a7 none 2 55 57),o 60 (.ld true 2 59),o 6 (.alloc 6 [z,z]),n (.st 2 6 60)]
def CO:=[o 61 (.a5 6 0),o 62 (.ld false 1 61),o 63 (.bin .lss 62 (k 0)),m 64 63,g 65 64 false (.a5 6 0),g 66 64 false (.ld false 1 65),
 g 67 64 false (.a5 1 8),g 68 64 false (.ld false 1 67),g 69 64 false (.a8 3),g 70 64 false (.bin .add 68 69),g 71 64 false (.bin .gtr 66 70),
 o 72 (.pick 64 (.c (.bool true)) 71)]
def w6:=[o 2 (.a8 (.c (.bool false)))]
def w7:=[o 73 (.a5 6 1),o 74 (.ld false 1 73),o 75 (.a5 1 4),o 76 (.a5 75 1),o 77 (.ld false 1 76),o 78 (.bin .shl (k 1) 77),o 79 (.bin .neq 74 78),m 80 79,
 g 81 80 true (.a5 1 4),g 82 80 true (.ld true 4 81),g 83 80 true (.a5 6 1),g 84 80 true (.ld false 1 83),g 85 80 true (.call 5 [82,84]),
 g 86 80 true (.un .not 85),o 87 (.pick 80 86 (.c (.bool false)))]
def y5:=[o 2 (.a8 (.c (.bool false)))]
def DM:=[o 88 (.bin .add 57 (k 1)),m 57 88]
def af:=[o 89 (.bin .add 45 (k 1)),m 45 89]
def bm:=[o 90 (.a5 1 8),o 91 (.ld false 1 90),o 92 (.a5 1 9),o 93 (.ld false 1 92),o 94 (.len 93),o 95 (.bin .add 91 94),m 7 95]
def cp:=[o 96 (.a5 1 10),o 97 (.ld false 1 96),o 98 (.len 97),o 99 (.a8 (k 0))]
def ea:=[o 100 (.bin .lss 99 98)]
def fk:=[o 101 (.a7 none 1 97 99),o 102 (.ld false 1 101),m 9 102]
def gv:=[m 103 9,o 104 (.bin .lss 103 (k 0)),m 105 104,g 106 105 false (.a8 9),g 107 105 false (.a8 7),g 108 105 false (.bin .gtr 106 107),
 o 109 (.pick 105 (.c (.bool true)) 108)]
def IW:=[o 2 (.a8 (.c (.bool false)))]
def JV:=[o 110 (.bin .add 99 (k 1)),m 99 110]
def SA:=[o 111 (.a5 1 11),o 112 (.ld false 1 111),o 113 (.bin .geq 112 (k 0)),m 114 113,g 115 114 true (.a5 1 11),g 116 114 true (.ld false 1 115),
 g 117 114 true (.a8 7),g 118 114 true (.bin .leq 116 117),o 119 (.pick 114 118 (.c (.bool false))),m 2 119]
def l2:=(s (p B2) (s (i 58 .skip (x 2)) (s (b 3 (s (d s8 [58,59,60]) (s (s (d CO [61,62,63,64,65,66,67,68,69,70,71]) (i 72 (s (d w6 [1,3,6,43,44,45,55,56,57,72]) .ret) .skip)) (s (e w7 [6,72,73,74,75,76,77,78,79,80,81,82,83,84,85,86]) (i 87 (s (d y5 [1,3,43,44,45,55,56,57,87]) .ret) .skip))))) (d DM [87,88]))))
def l1:=(s (p r6) (s (i 46 .skip (x 0)) (s (b 1 (s (d r7 [46,47,48,49]) (s (s (d r8 [50,51,52]) (i 53 (s (d r9 [1,3,4,43,44,45,53]) .ret) .skip)) (s (d BX [4,53,54]) (b 2 (w l2)))))) (d af [3,55,56,57,58,89]))))
def l3:=(s (p ea) (s (i 100 .skip (x 4)) (s (b 5 (s (d fk [100,101,102]) (s (d gv [9,103,104,105,106,107,108]) (i 109 (s (d IW [1,7,97,98,99,109]) .ret) .skip)))) (d JV [109,110]))))
def c:=(s (d r0 [0,2]) (s (s (d r1 [10,11,12,13,14,15,16,17,18]) (i 19 (s (d r2 [1,19]) .ret) .skip)) (s (s (d r3 [19,20,21,22,23,24,25,26,27,28,29,30,31,32,33,34,35,36,37,38,39,40]) (i 41 (s (d r4 [1,41]) .ret) .skip)) (s (s (d r5 [41,42]) (b 0 (w l1))) (s (d bm [43,44,45,46,90,91,92,93,94,95]) (s (s (d cp [96]) (b 4 (w l3))) (s (d SA [1,7,97,98,99,100,111,112,113,114,115,116,117,118,119]) .ret)))))))
end L5
def L5:AFn:=⟨1,L5.c,[.tmp 2],false⟩
structure ef (L:Lib):Prop extends j4 L where
 L5:L 21=some F.L5
end Go.b7.F

namespace Go.b7.F
open C
structure me (L:Lib):Prop extends dt L,ef L where
end Go.b7.F

namespace Go.b7.F
open C
namespace M7
def r0:=[o 1 (.box 1 0),o 2 (.alloc 2 [(.bool false),.nil,.nil])]
def r1:=[o 3 (.a5 1 0),o 4 (.a5 3 0),o 5 (.ld false 1 4),o 6 (.un .not 5),o 7 (.a5 1 0),o 8 (.a5 7 1),o 9 (.ld false 1 8),
 o 10 (.build [(.bool false),.nil] [(0,1,6),(1,1,9)]),o 11 (.a5 1 2),o 12 (.ld false 1 11),
 o 13 (.build [(.bool false),.nil,.nil] [(0,2,10),(2,1,12)]),n (.st 3 2 13)]
def c:=(s (d r0 [0]) (s (d r1 [1,3,4,5,6,7,8,9,10,11,12,13]) .ret))
end M7
def M7:AFn:=⟨1,M7.c,[.cell 2 true 3],false⟩
namespace M5
def r0:=[o 2 (.box 2 0),o 3 (.box 3 1),o 4 (.alloc 4 [(.bool false),.nil,.nil])]
def r1:=[o 5 (.ld true 3 2),o 6 (.ld true 3 3),o 7 (.l8 149 [6]),o 8 (.call 98 [5,7]),n (.st 3 4 8)]
def c:=(s (d r0 [0,1]) (s (e r1 [2,3,5,6,7,8]) .ret))
end M5
def M5:AFn:=⟨2,M5.c,[.cell 4 true 3],false⟩
namespace MY
def r0:=[o 4 (.alloc 4 [(.bool false),.nil,.nil])]
def r1:=[m 5 1,o 6 (.bin .eql 5 (k 0))]
def r2:=[o 7 (.call 96 [(k 0)]),n (.st 3 4 7)]
def r3:=[m 8 0,o 9 (.call 85 [8]),m 10 1,o 11 (.call 85 [10]),o 12 (.e9 93 [9,11]),o 13 (.call 94 [12]),n (.st 3 4 13)]
def c:=(s (p r0) (s (s (d r1 [5]) (i 6 (s (d r2 [0,1,6,7]) .ret) .skip)) (s (d r3 [0,1,6,8,9,10,11,12,13]) .ret)))
end MY
def MY:AFn:=⟨2,MY.c,[.cell 4 true 3],false⟩
structure v3 (L:Lib):Prop extends a6 L where
 M7:L 149=some F.M7
 M5:L 150=some F.M5
 MY:L 151=some F.MY
end Go.b7.F

namespace Go.b7.F
open C
namespace MV
def r0:=[o 2 (.a8 (.c .nil))]
def r1:=[m 4 0,o 5 (.len 4),m 3 5]
def r2:=[m 6 3,o 7 (.bin .gtr 6 (k 0)),m 8 7,g 9 8 true (.a8 0),g 10 8 true (.a8 3),g 11 8 true (.bin .sub 10 (k 1)),g 12 8 true (.a7 none 3 9 11),
 g 13 8 true (.ld true 3 12),g 14 8 true (.call 97 [13]),g 15 8 true (.bin .eql 14 (k 0)),o 16 (.pick 8 15 (.c (.bool false)))]
def r3:=[m 17 3,o 18 (.bin .sub 17 (k 1)),m 3 18]
def r4:=[m 19 0,m 20 3,o 21 (.bz 3 19 none (some 20)),m 2 21]
def l1:=(s (s (d r2 [6,7,8,9,10,11,12,13,14,15]) (i 16 .skip (x 0))) (b 1 (d r3 [16,17,18])))
def c:=(s (d r0 [2]) (s (d r1 [4,5]) (s (b 0 (w l1)) (s (d r4 [0,3,16,19,20,21]) .ret))))
end MV
def MV:AFn:=⟨1,MV.c,[.tmp 2],false⟩
structure jb (L:Lib):Prop extends a6 L where
 MV:L 169=some F.MV
end Go.b7.F

namespace Go.b7.F
open C
namespace NU
def r0:=[o 1 (.box 1 0),o 2 (.alloc 2 [(.bool false),.nil,.nil])]
def r1:=[o 3 (.ld true 3 1),o 4 (.call 123 [3]),n (.st 3 1 4)]
def r2:=[o 5 (.a5 1 0),o 6 (.ld true 2 5),o 7 (.call 114 [6]),o 8 (.a5 1 0),n (.st 2 8 7)]
def r3:=[o 9 (.ld true 3 1),n (.st 3 2 9)]
def c:=(s (d r0 [0]) (s (d r1 [3,4]) (s (d r2 [5,6,7,8]) (s (d r3 [1,9]) .ret))))
end NU
def NU:AFn:=⟨1,NU.c,[.cell 2 true 3],false⟩
structure dp (L:Lib):Prop extends c8 L where
 NU:L 152=some F.NU
end Go.b7.F

namespace Go.b7.F
open C
structure mf (L:Lib):Prop extends dp L where
structure oi (L:Lib):Prop extends me L,v3 L,jb L,mf L where
end Go.b7.F

namespace Go.b7.F
open C
namespace LD
def r0:=[o 2 (.box 2 0),o 3 (.box 3 1),o 4 (.a8 (k 0))]
def r1:=[o 7 (.ld true 2 2),o 8 (.call 86 [7]),o 9 (.ld true 2 3),o 10 (.call 86 [9]),m 5 8,m 6 10]
def r2:=[m 12 5,m 13 6,o 14 (.bin .lss 12 13),m 11 14]
def r3:=[o 4 (.a8 (k (-1)))]
def r4:=[m 16 5,m 17 6,o 18 (.bin .gtr 16 17),m 15 18]
def r5:=[o 4 (.a8 (k 1))]
def r6:=[m 20 5,o 21 (.bin .eql 20 (k (-1))),m 19 21]
def r7:=[o 22 (.a5 3 1),o 23 (.ld false 1 22),o 24 (.a5 2 1),o 25 (.ld false 1 24),o 26 (.call 67 [23,25]),m 4 26]
def r8:=[o 27 (.a5 2 1),o 28 (.ld false 1 27),o 29 (.a5 3 1),o 30 (.ld false 1 29),o 31 (.call 67 [28,30]),m 4 31]
def c:=(s (d r0 [0,1,4]) (s (e r1 [7,8,9,10]) (s (b 0 (s (d r2 [12,13,14]) (i 11 (s (d r3 [2,3,5,6,11]) .ret) (s (d r4 [6,11,16,17,18]) (i 15 (s (d r5 [2,3,5,15]) .ret) (s (d r6 [5,15,20,21]) (i 19 (s (d r7 [2,3,19,22,23,24,25,26]) .ret) .skip))))))) (s (d r8 [2,3,19,27,28,29,30,31]) .ret))))
end LD
def LD:AFn:=⟨2,LD.c,[.tmp 4],false⟩
namespace JX
def r0:=[o 2 (.box 2 0),o 3 (.box 3 1),o 4 (.a8 (k 0))]
def r1:=[q 7 [5,6] (.ld true 3 2),q 8 [5,6] (.l8 89 [7]),q 9 [5,6] (.ld true 3 3),q 10 [5,6] (.l8 89 [9]),
 o 5 (.alloc 5 [(.bool false),.nil,.nil,(.bool false)]),o 6 (.alloc 6 [(.bool false),.nil,.nil,(.bool false)]),n (.st 4 5 8),n (.st 4 6 10)]
def r2:=[o 11 (.a5 5 3),o 12 (.ld false 1 11),m 13 12,g 14 13 true (.a5 6 3),g 15 13 true (.ld false 1 14),o 16 (.pick 13 15 (.c (.bool false)))]
def r3:=[o 17 (.a5 5 0),o 18 (.a5 17 0),o 19 (.ld true 2 18),o 20 (.a5 6 0),o 21 (.a5 20 0),o 22 (.ld true 2 21),o 23 (.call 197 [19,22]),m 4 23]
def r4:=[o 24 (.a5 5 0),o 25 (.a5 24 0),o 26 (.ld true 2 25),o 27 (.a5 6 0),o 28 (.a5 27 2),o 29 (.ld false 1 28),o 30 (.l8 91 [29]),
 o 31 (.call 88 [26,30]),o 32 (.a5 6 0),o 33 (.a5 32 0),o 34 (.ld true 2 33),o 35 (.a5 5 0),o 36 (.a5 35 2),o 37 (.ld false 1 36),
 o 38 (.l8 91 [37]),o 39 (.call 88 [34,38]),o 40 (.call 197 [31,39]),m 4 40]
def c:=(s (d r0 [0,1,4]) (s (e r1 [2,3,7,8,9,10]) (s (s (d r2 [11,12,13,14,15]) (i 16 (s (d r3 [5,6,16,17,18,19,20,21,22,23]) .ret) .skip)) (s (e r4 [5,6,16,24,25,26,27,28,29,30,31,32,33,34,35,36,37,38,39,40]) .ret))))
end JX
def JX:AFn:=⟨2,JX.c,[.tmp 4],false⟩
namespace MZ
def r0:=[o 1 (.box 1 0),o 2 (.alloc 2 [(.bool false),.nil,.nil])]
def r1:=[o 3 (.ld true 3 1),o 4 (.l8 149 [3]),o 5 (.call 95 [4]),n (.st 3 2 5)]
def c:=(s (d r0 [0]) (s (d r1 [1,3,4,5]) .ret))
end MZ
def MZ:AFn:=⟨1,MZ.c,[.cell 2 true 3],false⟩
namespace MU
def r0:=[o 2 (.a8 (k 0))]
def r1:=[m 3 0,o 4 (.e9 169 [3]),o 5 (.len 4),o 6 (.bin .sub 5 (k 1)),m 2 6]
def c:=(s (d r0 [2]) (s (d r1 [0,3,4,5,6]) .ret))
end MU
def MU:AFn:=⟨1,MU.c,[.tmp 2],false⟩
namespace N0
def r0:=[o 1 (.box 1 0),o 2 (.a8 (.c (.bool false)))]
def r1:=[o 3 (.a5 1 0),o 4 (.ld false 1 3),o 5 (.call 200 [4]),o 6 (.bin .gtr 5 (k 48)),m 7 6,g 8 7 false (.a5 1 1),g 9 7 false (.ld false 1 8),
 g 10 7 false (.call 200 [9]),g 11 7 false (.bin .gtr 10 (k 48)),o 12 (.pick 7 (.c (.bool true)) 11)]
def r2:=[o 2 (.a8 (.c (.bool false)))]
def r3:=[o 13 (.a5 1 1),o 14 (.ld false 1 13),o 15 (.len 14),o 16 (.bin .gtr 15 (k 0)),m 17 16,g 18 17 true (.a5 1 1),g 19 17 true (.ld false 1 18),
 g 20 17 true (.a7 none 3 19 (k 0)),g 21 17 true (.ld true 3 20),g 22 17 true (.call 96 [(k 1)]),g 23 17 true (.call 198 [21,22]),
 g 24 17 true (.bin .eql 23 (k 0)),o 25 (.pick 17 24 (.c (.bool false))),m 2 25]
def c:=(s (d r0 [0,2]) (s (s (d r1 [3,4,5,6,7,8,9,10,11]) (i 12 (s (d r2 [1,12]) .ret) .skip)) (s (e r3 [1,12,13,14,15,16,17,18,19,20,21,22,23,24,25]) .ret)))
end N0
def N0:AFn:=⟨1,N0.c,[.tmp 2],false⟩
namespace N7
def r0:=[o 2 (.a8 (k 0))]
def r1:=[m 4 0,o 5 (.len 4),o 6 (.bin .sub 5 (k 1)),m 3 6]
def r2:=[m 7 3,o 8 (.bin .gtr 7 (k 0))]
def r4:=[m 11 0,m 12 3,o 13 (.a7 none 3 11 12),o 14 (.ld true 3 13),o 15 (.call 97 [14]),o 16 (.bin .neq 15 (k 0))]
def r5:=[m 17 3,m 2 17]
def r3:=[m 9 3,o 10 (.bin .sub 9 (k 1)),m 3 10]
def r6:=[o 2 (.a8 (k 0))]
def l1:=(s (s (d r2 [7]) (i 8 .skip (x 0))) (s (b 1 (s (d r4 [8,11,12,13,14,15]) (i 16 (s (d r5 [0,3,16,17]) .ret) .skip))) (d r3 [9,10,16])))
def c:=(s (d r0 [2]) (s (s (d r1 [4,5,6]) (b 0 (w l1))) (s (d r6 [0,3,8]) .ret)))
end N7
def N7:AFn:=⟨1,N7.c,[.tmp 2],false⟩
namespace N6
def r0:=[o 4 (.alloc 4 [(.bool false),.nil,.nil])]
def r1:=[m 5 1,m 6 0,o 7 (.len 6),o 8 (.bin .lss 5 7)]
def r2:=[m 9 0,m 10 1,o 11 (.a7 none 3 9 10),o 12 (.ld true 3 11),o 13 (.call 95 [12]),n (.st 3 4 13)]
def r3:=[o 14 (.call 96 [(k 0)]),n (.st 3 4 14)]
def c:=(s (p r0) (s (s (d r1 [5,6,7]) (i 8 (s (d r2 [0,1,8,9,10,11,12,13]) .ret) .skip)) (s (d r3 [0,1,8,14]) .ret)))
end N6
def N6:AFn:=⟨2,N6.c,[.cell 4 true 3],false⟩
namespace N8
def r0:=[o 2 (.a8 (.c .nil))]
def r1:=[m 5 0,o 6 (.mk 6 3 56 [(.bool false),.nil,.nil] 5 5),m 3 6]
def r2:=[m 7 0,o 8 (.a8 (k 0))]
def r3:=[o 9 (.bin .lss 8 7)]
def r4:=[m 10 8,m 4 10]
def r5:=[m 11 3,m 12 4,o 13 (.call 96 [(k 0)]),o 14 (.a7 none 3 11 12),n (.st 3 14 13)]
def r6:=[o 15 (.bin .add 8 (k 1)),m 8 15]
def r7:=[m 16 3,m 2 16]
def l1:=(s (p r3) (s (i 9 .skip (x 0)) (s (b 1 (s (d r4 [9,10]) (d r5 [4,11,12,13,14]))) (d r6 [15]))))
def c:=(s (d r0 [2]) (s (d r1 [5,6]) (s (s (d r2 [0]) (b 0 (w l1))) (s (d r7 [3,7,8,9,16]) .ret))))
end N8
def N8:AFn:=⟨1,N8.c,[.tmp 2],false⟩
namespace J4
def r0:=[o 1 (.box 1 0),o 2 (.alloc 2 [.nil,.nil,.nil,(.bool false),.nil,.nil]),o 3 (.a8 (k 0))]
def r1:=[o 10 (.ld true 2 1),o 11 (.call 201 [10]),o 12 (.un .not 11)]
def r2:=[o 13 (.build [.nil,.nil,.nil,(.bool false),.nil,.nil] []),n (.st 6 2 13),o 3 (.a8 (k 2))]
def r3:=[o 14 (.a5 1 0),o 15 (.ld false 1 14),o 16 (.call 204 [15]),o 17 (.a5 1 1),o 18 (.ld false 1 17),o 19 (.call 204 [18]),o 20 (.mm true [16,19]),
 m 4 20]
def r4:=[m 21 4,o 22 (.bin .gtr 21 (k 16))]
def r5:=[o 23 (.build [.nil,.nil,.nil,(.bool false),.nil,.nil] []),n (.st 6 2 23),o 3 (.a8 (k 12))]
def r6:=[o 24 (.a5 1 0),o 25 (.ld false 1 24),o 26 (.call 205 [25,(k 0)]),m 27 4,o 28 (.o8 28 206 [27]),
 o 29 (.build [.nil,.nil,.nil,(.bool false),.nil,.nil] [(3,3,26),(1,1,28)]),o 5 (.alloc 5 [.nil,.nil,.nil,(.bool false),.nil,.nil]),
 n (.st 6 5 29)]
def r7:=[m 30 4,o 31 (.bin .gtr 30 (k 0))]
def r8:=[o 32 (.a5 5 1),o 33 (.ld false 1 32),o 34 (.call 96 [(k 1)]),o 35 (.a7 none 3 33 (k 0)),n (.st 3 35 34)]
def r9:=[m 36 4,o 37 (.a8 (k 0))]
def BX:=[o 38 (.bin .lss 37 36)]
def B2:=[m 39 37,m 6 39]
def s8:=[m 40 4,o 41 (.o8 41 206 [40]),m 7 41]
def CO:=[m 42 6,o 43 (.bin .gtr 42 (k 0))]
def w6:=[m 44 7,m 45 6,o 46 (.bin .sub 45 (k 1)),o 47 (.call 96 [(k 1)]),o 48 (.a7 none 3 44 46),n (.st 3 48 47)]
def w7:=[m 49 4,o 50 (.a8 (k 0))]
def y5:=[o 51 (.bin .lss 50 49)]
def DM:=[m 52 50,m 8 52]
def af:=[m 53 7,m 54 8,o 55 (.a5 1 1),o 56 (.ld false 1 55),m 57 8,o 58 (.bin .add 57 (k 1)),o 59 (.call 205 [56,58]),o 60 (.call 199 [59]),
 o 61 (.a7 none 3 53 54),n (.st 3 61 60)]
def bm:=[o 62 (.bin .add 50 (k 1)),m 50 62]
def cp:=[o 63 (.a5 5 0),o 64 (.ld false 1 63),m 65 7,o 66 (.b8 66 1 [65]),o 67 (.app 67 1 24 64 66),o 68 (.a5 5 0),n (.st 1 68 67)]
def ea:=[o 69 (.a5 1 0),q 70 [9] (.ld false 1 69),q 71 [9] (.call 205 [70,(k 0)]),o 72 (.a5 1 1),q 73 [9] (.ld false 1 72),
 m 74 6,o 75 (.bin .add 74 (k 1)),q 76 [9] (.call 205 [73,75]),q 77 [9] (.call 99 [71,76]),
 o 9 (.alloc 9 [(.bool false),.nil,.nil]),n (.st 3 9 77)]
def fk:=[o 78 (.a5 5 2),q 79 [87] (.ld false 1 78),o 80 (.a5 1 0),o 81 (.ld false 1 80),m 82 6,o 83 (.bin .add 82 (k 1)),o 84 (.call 205 [81,83]),
 o 85 (.ld true 3 9),o 86 (.call 150 [84,85]),o 87 (.b8 87 3 [86]),o 88 (.app 88 3 56 79 87),o 89 (.a5 5 2),n (.st 1 89 88)]
def gv:=[o 90 (.bin .add 37 (k 1)),m 37 90]
def IW:=[o 91 (.ld true 6 5),n (.st 6 2 91),o 3 (.a8 (k 0))]
def l2:=(s (p y5) (s (i 51 .skip (x 2)) (s (b 3 (s (d DM [51,52]) (d af [8,53,54,55,56,57,58,59,60,61]))) (d bm [62]))))
def l1:=(s (p BX) (s (i 38 .skip (x 0)) (s (b 1 (s (d B2 [38,39]) (s (d s8 [40,41]) (s (s (d CO [42]) (i 43 (d w6 [43,44,45,46,47,48]) (s (d w7 [43]) (b 2 (w l2))))) (s (d cp [7,49,50,51,63,64,65,66,67,68]) (s (e ea [69,70,71,72,73,74,75,76,77]) (e fk [6,9,78,79,80,81,82,83,84,85,86,87,88,89]))))))) (d gv [90]))))
def c:=(s (d r0 [0,3]) (s (s (d r1 [10,11]) (i 12 (s (d r2 [1,12,13]) .ret) .skip)) (s (e r3 [12,14,15,16,17,18,19,20]) (s (s (d r4 [21]) (i 22 (s (d r5 [1,4,22,23]) .ret) .skip)) (s (d r6 [22,24,25,26,27,28,29]) (s (s (d r7 [30]) (i 31 (e r8 [31,32,33,34,35]) .skip)) (s (s (d r9 [31]) (b 0 (w l1))) (s (d IW [1,4,5,36,37,38,91]) .ret))))))))
end J4
def J4:AFn:=⟨1,J4.c,[.cell 2 true 6,.tmp 3],false⟩
structure o4 (L:Lib):Prop extends oi L where
 LD:L 197=some F.LD
 JX:L 198=some F.JX
 MZ:L 199=some F.MZ
 MU:L 200=some F.MU
 N0:L 201=some F.N0
 N7:L 204=some F.N7
 N6:L 205=some F.N6
 N8:L 206=some F.N8
 J4:L 207=some F.J4
end Go.b7.F

namespace Go.b7.F
open C
namespace MW
def r0:=[o 1 (.box 1 0),o 2 (.alloc 2 [(.bool false),.nil,.nil])]
def r1:=[o 3 (.a5 1 0),o 4 (.a5 3 1),o 5 (.ld false 1 4),o 6 (.build [(.bool false),.nil] [(1,1,5)]),o 7 (.a5 1 2),o 8 (.ld false 1 7),
 o 9 (.build [(.bool false),.nil,.nil] [(0,2,6),(2,1,8)]),o 10 (.call 95 [9]),n (.st 3 2 10)]
def c:=(s (d r0 [0]) (s (d r1 [1,3,4,5,6,7,8,9,10]) .ret))
end MW
def MW:AFn:=⟨1,MW.c,[.cell 2 true 3],false⟩
structure v9 (L:Lib):Prop extends o4 L where
 MW:L 256=some F.MW
end Go.b7.F

namespace Go.b7.F
open C
namespace MH
def r0:=[o 1 (.box 1 0),o 2 (.alloc 2 [(.bool false),.nil,.nil])]
def r1:=[o 3 (.ld true 3 1),o 4 (.call 95 [3]),o 5 (.jy 4 2 1 false),o 6 (.build [(.bool false),.nil] [(1,1,5)]),o 7 (.b8 7 1 [(.c (.int .u32 (1)))]),
 o 8 (.build [(.bool false),.nil,.nil] [(0,2,6),(2,1,7)]),n (.st 3 2 8)]
def c:=(s (d r0 [0]) (s (d r1 [1,3,4,5,6,7,8]) .ret))
end MH
def MH:AFn:=⟨1,MH.c,[.cell 2 true 3],false⟩
namespace MF
def r0:=[o 2 (.alloc 2 [(.bool false),.nil,.nil])]
def r1:=[o 10 (.call 96 [(k 1)]),o 3 (.alloc 3 [(.bool false),.nil,.nil]),n (.st 3 3 10)]
def r2:=[m 11 0,o 12 (.len 11),o 13 (.a8 (k 0))]
def r3:=[o 14 (.bin .lss 13 12)]
def r4:=[o 15 (.a7 none 1 11 13),o 16 (.ld false 1 15),m 5 16]
def r5:=[m 17 5,o 18 (.len 17),o 19 (.a8 (k 0))]
def r6:=[o 20 (.bin .lss 19 18)]
def r7:=[o 21 (.a7 none 3 17 19),o 22 (.ld true 3 21),o 7 (.alloc 7 [(.bool false),.nil,.nil]),n (.st 3 7 22)]
def r8:=[q 24 [8] (.ld true 3 3),q 25 [8] (.ld true 3 7),q 26 [8] (.call 294 [25]),q 27 [8] (.call 100 [24,26]),m 23 27,
 o 28 (.ext 23 0),o 29 (.ext 23 1),o 8 (.alloc 8 [(.bool false),.nil,.nil]),n (.st 3 8 28),m 9 29]
def r9:=[o 30 (.ld true 3 3),o 31 (.ld true 3 8),o 32 (.call 294 [31]),o 33 (.call 99 [30,32]),n (.st 3 3 33)]
def BX:=[o 34 (.bin .add 19 (k 1)),m 19 34]
def B2:=[o 35 (.bin .add 13 (k 1)),m 13 35]
def s8:=[o 36 (.ld true 3 3),n (.st 3 2 36)]
def l2:=(s (p r6) (s (i 20 .skip (x 2)) (s (b 3 (s (d r7 [20,21,22]) (s (e r8 [7,9,23,24,25,26,27,28,29]) (e r9 [8,30,31,32,33])))) (d BX [34]))))
def l1:=(s (p r3) (s (i 14 .skip (x 0)) (s (b 1 (s (d r4 [14,15,16]) (s (d r5 [5]) (b 2 (w l2))))) (d B2 [17,18,19,20,35]))))
def c:=(s (p r0) (s (d r1 [10]) (s (s (d r2 [0]) (b 0 (w l1))) (s (d s8 [3,11,12,13,14,36]) .ret))))
end MF
def MF:AFn:=⟨1,MF.c,[.cell 2 true 3],false⟩
namespace MR
def r0:=[o 3 (.box 3 1),o 4 (.a8 (.c .nil))]
def r1:=[m 7 0,o 8 (.len 7),o 9 (.mk 9 3 56 [(.bool false),.nil,.nil] 8 8),m 5 9]
def r2:=[m 10 0,o 11 (.len 10),o 12 (.a8 (k 0))]
def r3:=[o 13 (.bin .lss 12 11)]
def r4:=[m 14 12,m 6 14]
def r5:=[m 15 5,m 16 6,m 17 0,m 18 6,o 19 (.a7 none 3 17 18),o 20 (.ld true 3 19),o 21 (.ld true 3 3),o 22 (.call 99 [20,21]),o 23 (.a7 none 3 15 16),
 n (.st 3 23 22)]
def r6:=[o 24 (.bin .add 12 (k 1)),m 12 24]
def r7:=[m 25 5,m 4 25]
def l1:=(s (p r3) (s (i 13 .skip (x 0)) (s (b 1 (s (d r4 [13,14]) (e r5 [6,15,16,17,18,19,20,21,22,23]))) (d r6 [24]))))
def c:=(s (d r0 [1,4]) (s (d r1 [7,8,9]) (s (s (d r2 [10]) (b 0 (w l1))) (s (d r7 [0,3,5,11,12,13,25]) .ret))))
end MR
def MR:AFn:=⟨2,MR.c,[.tmp 4],false⟩
namespace MI
def r0:=[o 4 (.alloc 4 [(.bool false),.nil,.nil])]
def r1:=[o 7 (.call 96 [(k 0)]),o 5 (.alloc 5 [(.bool false),.nil,.nil]),n (.st 3 5 7)]
def r2:=[m 8 0,o 9 (.len 8),o 10 (.a8 (k 0))]
def r3:=[o 11 (.bin .lss 10 9)]
def r4:=[m 12 10,m 6 12]
def r5:=[m 13 0,m 14 6,o 15 (.a7 none 3 13 14),o 16 (.ld true 3 15),o 17 (.call 97 [16]),o 18 (.bin .neq 17 (k 0)),m 19 18,g 20 19 true (.a8 1),
 g 21 19 true (.a8 6),g 22 19 true (.a7 none 3 20 21),g 23 19 true (.ld true 3 22),g 24 19 true (.call 97 [23]),g 25 19 true (.bin .neq 24 (k 0)),
 o 26 (.pick 19 25 (.c (.bool false)))]
def r6:=[o 27 (.ld true 3 5),m 28 0,m 29 6,o 30 (.a7 none 3 28 29),o 31 (.ld true 3 30),m 32 1,m 33 6,o 34 (.a7 none 3 32 33),o 35 (.ld true 3 34),
 o 36 (.call 99 [31,35]),o 37 (.call 98 [27,36]),n (.st 3 5 37)]
def r7:=[o 38 (.bin .add 10 (k 1)),m 10 38]
def r8:=[o 39 (.ld true 3 5),n (.st 3 4 39)]
def l1:=(s (p r3) (s (i 11 .skip (x 0)) (s (b 1 (s (d r4 [11,12]) (s (d r5 [13,14,15,16,17,18,19,20,21,22,23,24,25]) (i 26 (e r6 [6,26,27,28,29,30,31,32,33,34,35,36,37]) .skip)))) (d r7 [6,26,38]))))
def c:=(s (p r0) (s (d r1 [7]) (s (s (d r2 [8]) (b 0 (w l1))) (s (d r8 [0,1,5,9,10,11,39]) .ret))))
end MI
def MI:AFn:=⟨2,MI.c,[.cell 4 true 3],false⟩
namespace MB
def r0:=[o 4 (.a8 (.c .nil))]
def r1:=[m 7 0,o 8 (.len 7),o 9 (.mk 9 3 56 [(.bool false),.nil,.nil] 8 8),m 5 9]
def r2:=[m 10 0,o 11 (.len 10),o 12 (.a8 (k 0))]
def r3:=[o 13 (.bin .lss 12 11)]
def r4:=[m 14 12,m 6 14]
def r5:=[m 15 5,m 16 6,m 17 0,m 18 6,o 19 (.a7 none 1 17 18),o 20 (.ld false 1 19),m 21 1,o 22 (.call 297 [20,21]),o 23 (.a7 none 3 15 16),n (.st 3 23 22)]
def r6:=[o 24 (.bin .add 12 (k 1)),m 12 24]
def r7:=[m 25 5,m 4 25]
def l1:=(s (p r3) (s (i 13 .skip (x 0)) (s (b 1 (s (d r4 [13,14]) (d r5 [6,15,16,17,18,19,20,21,22,23]))) (d r6 [24]))))
def c:=(s (d r0 [4]) (s (d r1 [7,8,9]) (s (s (d r2 [10]) (b 0 (w l1))) (s (d r7 [0,1,5,11,12,13,25]) .ret))))
end MB
def MB:AFn:=⟨2,MB.c,[.tmp 4],false⟩
namespace MP
def r0:=[o 2 (.a8 (.c .nil))]
def r1:=[m 10 0,o 11 (.len 10),m 3 11]
def r2:=[m 12 3,o 13 (.mk 13 1 24 [.nil] 12 12),m 4 13]
def r3:=[m 14 3,o 15 (.a8 (k 0))]
def r4:=[o 16 (.bin .lss 15 14)]
def r5:=[m 17 15,m 5 17]
def r6:=[m 18 4,m 19 5,m 20 3,o 21 (.mk 21 3 56 [(.bool false),.nil,.nil] 20 20),o 22 (.a7 none 1 18 19),n (.st 1 22 21)]
def r7:=[o 23 (.bin .add 15 (k 1)),m 15 23]
def r8:=[m 24 3,o 25 (.mk 25 3 56 [(.bool false),.nil,.nil] 24 24),m 6 25]
def r9:=[m 26 3,o 27 (.a8 (k 0))]
def BX:=[o 28 (.bin .lss 27 26)]
def B2:=[m 29 27,m 7 29]
def s8:=[m 30 3,o 31 (.a8 (k 0))]
def CO:=[o 32 (.bin .lss 31 30)]
def w6:=[m 33 31,m 8 33]
def w7:=[m 34 6,m 35 8,m 36 0,m 37 8,o 38 (.a7 none 1 36 37),o 39 (.ld false 1 38),m 40 7,o 41 (.a7 none 3 39 40),o 42 (.ld true 3 41),
 o 43 (.a7 none 3 34 35),n (.st 3 43 42)]
def y5:=[o 44 (.bin .add 31 (k 1)),m 31 44]
def DM:=[m 45 3,o 46 (.a8 (k 0))]
def af:=[o 47 (.bin .lss 46 45)]
def bm:=[m 48 46,m 9 48]
def cp:=[m 49 4,m 50 9,o 51 (.a7 none 1 49 50),o 52 (.ld false 1 51),m 53 7,m 54 0,m 55 9,o 56 (.a7 none 1 54 55),o 57 (.ld false 1 56),m 58 6,
 o 59 (.call 297 [57,58]),o 60 (.a7 none 3 52 53),n (.st 3 60 59)]
def ea:=[o 61 (.bin .add 46 (k 1)),m 46 61]
def fk:=[o 62 (.bin .add 27 (k 1)),m 27 62]
def gv:=[m 63 4,m 2 63]
def l1:=(s (p r4) (s (i 16 .skip (x 0)) (s (b 1 (s (d r5 [16,17]) (d r6 [5,18,19,20,21,22]))) (d r7 [23]))))
def l3:=(s (p CO) (s (i 32 .skip (x 4)) (s (b 5 (s (d w6 [32,33]) (d w7 [8,34,35,36,37,38,39,40,41,42,43]))) (d y5 [44]))))
def l4:=(s (p af) (s (i 47 .skip (x 6)) (s (b 7 (s (d bm [47,48]) (e cp [9,49,50,51,52,53,54,55,56,57,58,59,60]))) (d ea [61]))))
def l2:=(s (p BX) (s (i 28 .skip (x 2)) (s (b 3 (s (d B2 [28,29]) (s (s (p s8) (b 4 (w l3))) (s (d DM [30,31,32]) (b 6 (w l4)))))) (d fk [7,45,46,47,62]))))
def c:=(s (d r0 [2]) (s (d r1 [10,11]) (s (d r2 [12,13]) (s (s (p r3) (b 0 (w l1))) (s (d r8 [14,15,16,24,25]) (s (s (p r9) (b 2 (w l2))) (s (d gv [0,3,4,6,26,27,28,63]) .ret)))))))
end MP
def MP:AFn:=⟨1,MP.c,[.tmp 2],false⟩
namespace MS
def r0:=[o 2 (.alloc 2 [(.bool false),.nil,.nil])]
def r1:=[o 6 (.call 96 [(k 0)]),o 3 (.alloc 3 [(.bool false),.nil,.nil]),n (.st 3 3 6)]
def r2:=[m 7 0,o 8 (.len 7),o 9 (.a8 (k 0))]
def r3:=[o 10 (.bin .lss 9 8)]
def r4:=[o 11 (.a7 none 3 7 9),o 12 (.ld true 3 11),o 5 (.alloc 5 [(.bool false),.nil,.nil]),n (.st 3 5 12)]
def r5:=[o 13 (.ld true 3 3),o 14 (.ld true 3 5),o 15 (.call 256 [14]),o 16 (.call 98 [13,15]),n (.st 3 3 16)]
def r6:=[o 17 (.bin .add 9 (k 1)),m 9 17]
def r7:=[o 18 (.ld true 3 3),n (.st 3 2 18)]
def l1:=(s (p r3) (s (i 10 .skip (x 0)) (s (b 1 (s (d r4 [10,11,12]) (e r5 [5,13,14,15,16]))) (d r6 [17]))))
def c:=(s (p r0) (s (d r1 [6]) (s (s (d r2 [0]) (b 0 (w l1))) (s (d r7 [3,7,8,9,10,18]) .ret))))
end MS
def MS:AFn:=⟨1,MS.c,[.cell 2 true 3],false⟩
namespace MM
def r0:=[o 2 (.alloc 2 [(.bool false),.nil,.nil])]
def r1:=[o 7 (.call 96 [(k 0)]),o 3 (.alloc 3 [(.bool false),.nil,.nil]),n (.st 3 3 7)]
def r2:=[m 8 0,o 9 (.len 8),o 10 (.a8 (k 0))]
def r3:=[o 11 (.bin .lss 10 9)]
def r4:=[o 12 (.a7 none 3 8 10),o 13 (.ld true 3 12),o 5 (.alloc 5 [(.bool false),.nil,.nil]),n (.st 3 5 13)]
def r5:=[o 14 (.ld true 3 5),o 15 (.call 256 [14]),o 6 (.alloc 6 [(.bool false),.nil,.nil]),n (.st 3 6 15)]
def r6:=[o 16 (.ld true 3 6),o 17 (.ld true 3 3),o 18 (.call 198 [16,17]),o 19 (.bin .gtr 18 (k 0))]
def r7:=[o 20 (.ld true 3 6),n (.st 3 3 20)]
def r8:=[o 21 (.bin .add 10 (k 1)),m 10 21]
def r9:=[o 22 (.ld true 3 3),n (.st 3 2 22)]
def l1:=(s (p r3) (s (i 11 .skip (x 0)) (s (b 1 (s (d r4 [11,12,13]) (s (d r5 [5,14,15]) (s (d r6 [16,17,18]) (i 19 (d r7 [6,19,20]) .skip))))) (d r8 [6,19,21]))))
def c:=(s (p r0) (s (d r1 [7]) (s (s (d r2 [0]) (b 0 (w l1))) (s (d r9 [3,8,9,10,11,22]) .ret))))
end MM
def MM:AFn:=⟨1,MM.c,[.cell 2 true 3],false⟩
namespace MG
def r0:=[o 3 (.box 3 1),o 4 (.a8 (.c (.bool false)))]
def r1:=[m 8 0,o 9 (.len 8),o 10 (.a8 (k 0))]
def r2:=[o 11 (.bin .lss 10 9)]
def r3:=[o 12 (.a7 none 1 8 10),o 13 (.ld false 1 12),m 6 13]
def r4:=[m 14 6,o 15 (.call 300 [14]),o 7 (.alloc 7 [(.bool false),.nil,.nil]),n (.st 3 7 15)]
def r5:=[o 16 (.ld true 3 7),o 17 (.ld true 3 7),o 18 (.call 98 [16,17]),o 19 (.ld true 3 3),o 20 (.call 198 [18,19]),o 21 (.bin .gtr 20 (k 0))]
def r6:=[o 4 (.a8 (.c (.bool false)))]
def r7:=[o 22 (.bin .add 10 (k 1)),m 10 22]
def r8:=[o 4 (.a8 (.c (.bool true)))]
def l1:=(s (p r2) (s (i 11 .skip (x 0)) (s (b 1 (s (d r3 [11,12,13]) (s (d r4 [6,14,15]) (s (e r5 [7,16,17,18,19,20]) (i 21 (s (d r6 [3,8,9,10,21]) .ret) .skip))))) (d r7 [21,22]))))
def c:=(s (d r0 [1,4]) (s (s (d r1 [0]) (b 0 (w l1))) (s (d r8 [3,8,9,10,11]) .ret)))
end MG
def MG:AFn:=⟨2,MG.c,[.tmp 4],false⟩
namespace MQ
def r0:=[o 2 (.alloc 2 [.nil,(.bool false),.nil,.nil,z,(.bool false),.nil,.nil]),o 3 (.a8 (k 0))]
def r1:=[m 9 0,o 10 (.call 295 [9]),o 11 (.call 96 [(k 1)]),
 o 12 (.build [.nil,(.bool false),.nil,.nil,z,(.bool false),.nil,.nil] [(1,3,10),(4,1,(k 1)),(5,3,11)]),
 o 4 (.alloc 4 [.nil,(.bool false),.nil,.nil,z,(.bool false),.nil,.nil]),n (.st 8 4 12)]
def r2:=[m 13 0,o 14 (.len 13),o 15 (.a8 (k 0))]
def r3:=[o 16 (.bin .lss 15 14)]
def r4:=[o 17 (.a7 none 1 13 15),o 18 (.ld false 1 17),m 6 18]
def r5:=[o 19 (.a5 4 0),q 20 [25] (.ld false 1 19),m 21 6,o 22 (.a5 4 1),o 23 (.ld true 3 22),o 24 (.call 296 [21,23]),o 25 (.b8 25 1 [24]),
 o 26 (.app 26 1 24 20 25),o 27 (.a5 4 0),n (.st 1 27 26)]
def r6:=[o 28 (.bin .add 15 (k 1)),m 15 28]
def r7:=[o 29 (.a5 4 0),q 30 [8] (.ld false 1 29),o 31 (.a5 4 1),q 32 [8] (.ld true 3 31),o 8 (.alloc 8 [(.bool false),.nil,.nil]),
 m 7 30,n (.st 3 8 32)]
def r8:=[m 33 7,o 34 (.ld true 3 8),o 35 (.call 302 [33,34]),o 36 (.un .not 35)]
def r9:=[o 37 (.a5 4 4),o 38 (.ld false 1 37),o 39 (.bin .eql 38 (k 64))]
def BX:=[o 40 (.build [.nil,(.bool false),.nil,.nil,z,(.bool false),.nil,.nil] []),n (.st 8 2 40),o 3 (.a8 (k 14))]
def B2:=[m 41 7,o 42 (.call 299 [41]),o 43 (.ld true 3 8),o 44 (.ld true 3 8),o 45 (.call 99 [43,44]),m 7 42,n (.st 3 8 45)]
def s8:=[o 46 (.a5 4 4),o 47 (.ld false 1 46),o 48 (.bin .mul 47 (k 2)),o 49 (.a5 4 4),n (.st 1 49 48)]
def CO:=[o 50 (.a5 4 4),o 51 (.ld false 1 50),o 52 (.bin .mul (k 2) 51),o 53 (.bin .sub 52 (k 1)),o 54 (.a8 (k 0))]
def w6:=[o 55 (.bin .lss 54 53)]
def w7:=[o 56 (.a5 4 5),o 57 (.ld true 3 56),o 58 (.a5 4 1),o 59 (.ld true 3 58),o 60 (.call 99 [57,59]),o 61 (.a5 4 5),n (.st 3 61 60)]
def y5:=[o 62 (.bin .add 54 (k 1)),m 54 62]
def DM:=[o 63 (.ld true 8 4),n (.st 8 2 63),o 3 (.a8 (k 0))]
def l1:=(s (p r3) (s (i 16 .skip (x 0)) (s (b 1 (s (d r4 [16,17,18]) (e r5 [6,19,20,21,22,23,24,25,26,27]))) (d r6 [28]))))
def l2:=(s (s (d r8 [33,34,35]) (i 36 .skip (x 2))) (b 3 (s (s (d r9 [36,37,38]) (i 39 (s (d BX [4,7,8,39,40]) .ret) .skip)) (s (e B2 [39,41,42,43,44,45]) (d s8 [46,47,48,49])))))
def l3:=(s (p w6) (s (i 55 .skip (x 4)) (s (b 5 (d w7 [55,56,57,58,59,60,61])) (d y5 [62]))))
def c:=(s (d r0 [3]) (s (d r1 [9,10,11,12]) (s (s (d r2 [0]) (b 0 (w l1))) (s (e r7 [13,14,15,16,29,30,31,32]) (s (b 2 (w l2)) (s (s (d CO [7,8,36,50,51,52]) (b 4 (w l3))) (s (d DM [4,53,54,55,63]) .ret)))))))
end MQ
def MQ:AFn:=⟨1,MQ.c,[.cell 2 true 8,.tmp 3],false⟩
namespace MK
def r0:=[o 2 (.box 2 0),o 4 (.alloc 4 [.nil,(.bool false),.nil,.nil])]
def r1:=[o 8 (.call 96 [(k 0)]),o 9 (.build [.nil,(.bool false),.nil,.nil] [(1,3,8)]),o 5 (.alloc 5 [.nil,(.bool false),.nil,.nil]),n (.st 4 5 9)]
def r2:=[m 10 1,m 6 10]
def r3:=[o 11 (.a5 2 4),o 12 (.ld false 1 11),o 13 (.bin .mul (k 2) 12),o 14 (.a8 (k 0))]
def r4:=[o 15 (.bin .lss 14 13)]
def r5:=[m 16 14,m 7 16]
def r6:=[m 17 7,o 18 (.bin .gtr 17 (k 0))]
def r7:=[o 19 (.a5 2 0),o 20 (.ld false 1 19),m 21 6,o 22 (.call 298 [20,21]),m 6 22]
def r8:=[o 23 (.a5 5 0),o 24 (.ld false 1 23),m 25 6,o 26 (.b8 26 1 [25]),o 27 (.app 27 1 24 24 26),o 28 (.a5 5 0),n (.st 1 28 27)]
def r9:=[m 29 7,o 30 (.a5 2 4),o 31 (.ld false 1 30),o 32 (.bin .geq 29 31)]
def BX:=[o 33 (.a5 5 1),o 34 (.ld true 3 33),o 35 (.a5 2 1),o 36 (.ld true 3 35),o 37 (.call 99 [34,36]),m 38 6,o 39 (.call 301 [38]),
 o 40 (.call 98 [37,39]),o 41 (.a5 5 1),n (.st 3 41 40)]
def B2:=[o 42 (.bin .add 14 (k 1)),m 14 42]
def s8:=[o 43 (.ld true 4 5),n (.st 4 4 43)]
def l1:=(s (p r4) (s (i 15 .skip (x 0)) (s (b 1 (s (d r5 [15,16]) (s (s (d r6 [17]) (i 18 (d r7 [18,19,20,21,22]) .skip)) (s (d r8 [18,23,24,25,26,27,28]) (s (d r9 [7,29,30,31]) (i 32 (d BX [32,33,34,35,36,37,38,39,40,41]) .skip)))))) (d B2 [32,42]))))
def c:=(s (d r0 [0]) (s (d r1 [8,9]) (s (d r2 [1,10]) (s (s (d r3 [11,12]) (b 0 (w l1))) (s (d s8 [2,5,6,13,14,15,43]) .ret)))))
end MK
def MK:AFn:=⟨2,MK.c,[.cell 4 true 4],false⟩
namespace MJ
def r0:=[o 3 (.box 3 0),o 5 (.box 5 2),o 6 (.alloc 6 [(.bool false),.nil,.nil])]
def r1:=[o 10 (.call 96 [(k 0)]),o 7 (.alloc 7 [(.bool false),.nil,.nil]),n (.st 3 7 10)]
def r2:=[o 11 (.a5 5 0),o 12 (.ld false 1 11),o 13 (.len 12),o 14 (.a8 (k 0))]
def r3:=[o 15 (.bin .lss 14 13)]
def r4:=[o 16 (.a7 none 1 12 14),o 17 (.ld false 1 16),m 9 17]
def r5:=[o 18 (.ld true 3 7),o 19 (.a5 3 1),o 20 (.ld true 3 19),o 21 (.call 99 [18,20]),m 22 1,m 23 9,o 24 (.call 297 [22,23]),o 25 (.call 256 [24]),
 o 26 (.call 98 [21,25]),n (.st 3 7 26)]
def r6:=[o 27 (.bin .add 14 (k 1)),m 14 27]
def r7:=[o 28 (.ld true 3 7),m 29 1,o 30 (.call 300 [29]),o 31 (.a5 5 1),o 32 (.ld true 3 31),o 33 (.call 99 [30,32]),o 34 (.call 98 [28,33]),n (.st 3 6 34)]
def l1:=(s (p r3) (s (i 15 .skip (x 0)) (s (b 1 (s (d r4 [15,16,17]) (d r5 [9,18,19,20,21,22,23,24,25,26]))) (d r6 [27]))))
def c:=(s (d r0 [0,2]) (s (d r1 [10]) (s (s (d r2 [11]) (b 0 (w l1))) (s (e r7 [1,3,5,7,12,13,14,15,28,29,30,31,32,33,34]) .ret))))
end MJ
def MJ:AFn:=⟨3,MJ.c,[.cell 6 true 3],false⟩
namespace MA
def r0:=[o 1 (.box 1 0),o 2 (.alloc 2 [(.bool false),.nil,.nil]),o 3 (.a8 (k 0))]
def r1:=[o 11 (.ld true 6 1),o 12 (.call 130 [11]),o 13 (.un .not 12),m 14 13,g 15 14 false (.a5 1 0),g 16 14 false (.ld false 1 15),g 17 14 false (.len 16),
 g 18 14 false (.bin .gtr 17 (k 16)),o 19 (.pick 14 (.c (.bool true)) 18)]
def r2:=[o 20 (.build [(.bool false),.nil,.nil] []),n (.st 3 2 20),o 3 (.a8 (k 2))]
def r3:=[o 22 (.a5 1 0),o 23 (.ld false 1 22),o 24 (.call 303 [23]),m 21 24,o 25 (.ext 21 0),o 26 (.ext 21 1),
 o 4 (.alloc 4 [.nil,(.bool false),.nil,.nil,z,(.bool false),.nil,.nil]),n (.st 8 4 25),m 5 26]
def r4:=[m 27 5,o 28 (.bin .neq 27 (k 0))]
def r5:=[o 29 (.build [(.bool false),.nil,.nil] []),m 30 5,n (.st 3 2 29),m 3 30]
def r6:=[o 31 (.a5 1 1),q 32 [37,6,7] (.ld false 1 31),o 33 (.b8 33 1 [32]),q 34 [37,6,7] (.call 295 [33]),o 35 (.a5 1 2),
 q 36 [33,6,7] (.ld false 1 35),o 37 (.b8 37 1 [36]),q 38 [6,7] (.call 295 [37]),o 6 (.alloc 6 [(.bool false),.nil,.nil]),
 o 7 (.alloc 7 [(.bool false),.nil,.nil]),n (.st 3 6 34),n (.st 3 7 38)]
def r7:=[q 39 [8] (.ld true 8 4),o 40 (.a5 1 2),q 41 [8] (.ld false 1 40),q 42 [8] (.ld true 3 7),
 q 43 [8] (.call 296 [41,42]),q 44 [8] (.ld true 8 4),o 45 (.a5 1 1),q 46 [8] (.ld false 1 45),
 q 47 [8] (.ld true 3 6),q 48 [8] (.call 296 [46,47]),q 49 [8] (.l8 304 [44,48]),
 q 50 [8] (.call 305 [39,43,49]),o 8 (.alloc 8 [(.bool false),.nil,.nil]),n (.st 3 8 50)]
def r8:=[q 52 [9] (.ld true 3 8),o 53 (.a5 4 5),q 54 [9] (.ld true 3 53),q 55 [9] (.ld true 3 6),
 q 56 [9] (.ld true 3 7),q 57 [9] (.call 99 [55,56]),q 58 [9] (.call 99 [54,57]),q 59 [9] (.call 100 [52,58]),
 m 51 59,o 60 (.ext 51 0),o 61 (.ext 51 1),o 9 (.alloc 9 [(.bool false),.nil,.nil]),n (.st 3 9 60),m 10 61]
def r9:=[o 62 (.a5 1 3),o 63 (.ld true 3 62),o 64 (.call 256 [63]),o 65 (.ld true 3 9),o 66 (.call 98 [64,65]),n (.st 3 2 66),o 3 (.a8 (k 0))]
def c:=(s (d r0 [0,3]) (s (s (d r1 [11,12,13,14,15,16,17,18]) (i 19 (s (d r2 [1,19,20]) .ret) .skip)) (s (d r3 [19,21,22,23,24,25,26]) (s (s (d r4 [27]) (i 28 (s (d r5 [1,4,5,28,29,30]) .ret) .skip)) (s (e r6 [5,28,31,32,33,34,35,36,37,38]) (s (e r7 [39,40,41,42,43,44,45,46,47,48,49,50]) (s (e r8 [4,6,7,8,10,51,52,53,54,55,56,57,58,59,60,61]) (s (e r9 [1,9,62,63,64,65,66]) .ret))))))))
end MA
def MA:AFn:=⟨1,MA.c,[.cell 2 true 3,.tmp 3],false⟩
structure l7 (L:Lib):Prop extends v9 L where
 MH:L 294=some F.MH
 MF:L 295=some F.MF
 MR:L 296=some F.MR
 MI:L 297=some F.MI
 MB:L 298=some F.MB
 MP:L 299=some F.MP
 MS:L 300=some F.MS
 MM:L 301=some F.MM
 MG:L 302=some F.MG
 MQ:L 303=some F.MQ
 MK:L 304=some F.MK
 MJ:L 305=some F.MJ
 MA:L 307=some F.MA
end Go.b7.F

namespace Go.b7.F
open C
namespace OH
def r0:=[o 4 (.a8 (k 0))]
def r1:=[m 5 1,o 6 (.bin .lss 5 (k 1))]
def r2:=[o 4 (.a8 (k 0))]
def r3:=[m 7 0,m 8 1,o 9 (.bin .rem 7 8),m 0 9]
def r4:=[m 10 0,o 11 (.bin .lss 10 (k 0))]
def r5:=[m 12 0,m 13 1,o 14 (.bin .add 12 13),m 0 14]
def r6:=[m 15 0,m 4 15]
def c:=(s (d r0 [4]) (s (s (d r1 [5]) (i 6 (s (d r2 [0,1,6]) .ret) .skip)) (s (d r3 [6,7,8,9]) (s (s (d r4 [10]) (i 11 (d r5 [1,11,12,13,14]) .skip)) (s (d r6 [0,1,11,15]) .ret)))))
end OH
def OH:AFn:=⟨2,OH.c,[.tmp 4],false⟩
namespace OA
def r0:=[o 4 (.a8 (k 0))]
def r1:=[m 5 1,o 6 (.bin .geq 5 (k 0)),m 7 6,g 8 7 true (.a8 1),g 9 7 true (.a8 0),g 10 7 true (.len 9),g 11 7 true (.bin .lss 8 10),
 o 12 (.pick 7 11 (.c (.bool false)))]
def r2:=[m 13 0,m 14 1,o 15 (.a7 none 1 13 14),o 16 (.ld false 1 15),m 4 16]
def r3:=[o 4 (.a8 (k 0))]
def c:=(s (d r0 [4]) (s (s (d r1 [5,6,7,8,9,10,11]) (i 12 (s (d r2 [0,1,12,13,14,15,16]) .ret) .skip)) (s (d r3 [0,1,12]) .ret)))
end OA
def OA:AFn:=⟨2,OA.c,[.tmp 4],false⟩
namespace OI
def r0:=[o 8 (.alloc 8 [z,z,z,z])]
def r1:=[m 10 0,o 11 (.call 34 [10,(k 1099511627776)]),m 0 11]
def r2:=[m 12 1,m 13 0,m 14 2,m 15 1,o 16 (.bin .sub 14 15),o 17 (.bin .add 16 (k 1)),o 18 (.bin .rem 13 17),o 19 (.bin .add 12 18),
 o 20 (.build [z,z,z,z] [(0,1,19)]),o 9 (.alloc 9 [z,z,z,z]),n (.st 4 9 20)]
def r3:=[m 21 0,m 22 2,m 23 1,o 24 (.bin .sub 22 23),o 25 (.bin .add 24 (k 1)),o 26 (.bin .quo 21 25),m 0 26]
def r4:=[o 27 (.a5 9 0),o 28 (.ld false 1 27),o 29 (.bin .sub 28 (k 1)),m 30 3,o 31 (.bin .sub 29 30),m 32 0,o 33 (.bin .rem 32 (k 2)),o 34 (.bin .sub 31 33),
 o 35 (.a5 9 1),n (.st 1 35 34)]
def r5:=[m 36 0,o 37 (.bin .quo 36 (k 2)),m 0 37]
def r6:=[o 38 (.a5 9 1),o 39 (.ld false 1 38),o 40 (.mm true [39,(k 0)]),o 41 (.a5 9 1),n (.st 1 41 40)]
def r7:=[m 42 0,o 43 (.bin .rem 42 (k 3)),o 44 (.bin .add (k 1) 43),m 45 0,o 46 (.bin .quo 45 (k 3)),o 47 (.bin .rem 46 (k 2)),o 48 (.bin .add (k 1) 47),
 o 49 (.a5 9 2),n (.st 1 49 44),o 50 (.a5 9 3),n (.st 1 50 48)]
def r8:=[o 51 (.ld true 4 9),n (.st 4 8 51)]
def c:=(s (p r0) (s (d r1 [10,11]) (s (d r2 [12,13,14,15,16,17,18,19,20]) (s (d r3 [1,2,21,22,23,24,25,26]) (s (d r4 [3,27,28,29,30,31,32,33,34,35]) (s (d r5 [36,37]) (s (d r6 [38,39,40,41]) (s (d r7 [0,42,43,44,45,46,47,48,49,50]) (s (d r8 [9,51]) .ret)))))))))
end OI
def OI:AFn:=⟨4,OI.c,[.cell 8 true 4],false⟩
namespace OD
def r0:=[o 2 (.alloc 2 [z,z,z,z])]
def r1:=[m 3 0,o 4 (.call 36 [3,(k 6),(k 12),(k 2)]),n (.st 4 2 4)]
def c:=(s (p r0) (s (d r1 [0,3,4]) .ret))
end OD
def OD:AFn:=⟨1,OD.c,[.cell 2 true 4],false⟩
namespace OC
def r0:=[o 2 (.alloc 2 [z,z,z,z])]
def r1:=[m 3 0,o 4 (.call 36 [3,(k 6),(k 9),(k 1)]),n (.st 4 2 4)]
def c:=(s (p r0) (s (d r1 [0,3,4]) .ret))
end OC
def OC:AFn:=⟨1,OC.c,[.cell 2 true 4],false⟩
namespace OB
def r0:=[o 6 (.a8 (.c .nil))]
def r1:=[o 7 (.x8 7 1)]
def r2:=[o 8 (.a8 (k 0))]
def r3:=[m 9 8,m 10 2,o 11 (.bin .lss 9 10)]
def r5:=[m 14 7,m 15 1,m 16 8,o 17 (.call 35 [15,16]),m 18 0,o 19 (.bin .add 17 18),m 20 0,o 21 (.bin .mul (k 2) 20),o 22 (.bin .add 21 (k 1)),
 o 23 (.call 34 [19,22]),m 24 0,o 25 (.bin .sub 23 24),o 26 (.b8 26 1 [25]),o 27 (.app 27 1 8 14 26),m 7 27]
def r4:=[m 12 8,o 13 (.bin .add 12 (k 1)),m 8 13]
def r6:=[m 28 7,m 6 28]
def l1:=(s (s (d r3 [9,10]) (i 11 .skip (x 0))) (s (b 1 (d r5 [11,14,15,16,17,18,19,20,21,22,23,24,25,26,27])) (d r4 [12,13])))
def c:=(s (d r0 [6]) (s (p r1) (s (s (p r2) (b 0 (w l1))) (s (d r6 [0,1,2,7,8,11,28]) .ret))))
end OB
def OB:AFn:=⟨3,OB.c,[.tmp 6],false⟩
namespace OG
def r0:=[o 1 (.box 1 0),o 2 (.a8 (k 0))]
def r1:=[o 3 (.a5 1 1),o 4 (.ld false 1 3),o 5 (.conv .u64 4),o 6 (.bin .shl (k 1) 5),m 2 6]
def c:=(s (d r0 [0,2]) (s (d r1 [1,3,4,5,6]) .ret))
end OG
def OG:AFn:=⟨1,OG.c,[.tmp 2],false⟩
structure o5 (L:Lib):Prop extends j4 L where
 OH:L 34=some F.OH
 OA:L 35=some F.OA
 OI:L 36=some F.OI
 OD:L 37=some F.OD
 OC:L 38=some F.OC
 OB:L 40=some F.OB
 OG:L 41=some F.OG
end Go.b7.F

namespace Go.b7.F
open C
structure mg (L:Lib):Prop extends ef L,o5 L where
end Go.b7.F

namespace Go.b7.F
open C
namespace K4
def r0:=[o 6 (.box 6 2),o 7 (.box 7 3),o 8 (.a8 (k 0))]
def r1:=[o 13 (.ld true 4 6),o 14 (.call 2 [13]),o 15 (.un .not 14),m 16 15,g 17 16 false (.ld true 4 7),g 18 16 false (.call 2 [17]),g 19 16 false (.un .not 18),
 o 20 (.pick 16 (.c (.bool true)) 19)]
def r2:=[o 8 (.a8 (k 2))]
def r3:=[m 21 0,o 22 (.len 21),o 23 (.bin .eql 22 (k 0)),m 24 23,g 25 24 false (.a8 0),g 26 24 false (.len 25),g 27 24 false (.bin .gtr 26 (k 49)),
 o 28 (.pick 24 (.c (.bool true)) 27),m 29 28,g 30 29 false (.a8 1),g 31 29 false (.len 30),g 32 29 false (.bin .gtr 31 (k 8)),
 o 33 (.pick 29 (.c (.bool true)) 32)]
def r4:=[o 8 (.a8 (k 12))]
def r5:=[m 34 0,o 35 (.len 34),o 36 (.a8 (k 0))]
def r6:=[o 37 (.bin .lss 36 35)]
def r7:=[o 38 (.a7 none 1 34 36),o 39 (.ld false 1 38),m 10 39]
def r8:=[o 40 (.ld true 4 7),m 41 10,o 42 (.call 5 [40,41]),o 43 (.un .not 42)]
def r9:=[o 8 (.a8 (k 17))]
def BX:=[o 44 (.bin .add 36 (k 1)),m 36 44]
def B2:=[m 45 1,o 46 (.len 45),o 47 (.a8 (k 0))]
def s8:=[o 48 (.bin .lss 47 46)]
def CO:=[o 49 (.a7 none 1 45 47),o 50 (.ld false 1 49),m 12 50]
def w6:=[o 51 (.ld true 4 7),m 52 12,o 53 (.call 5 [51,52]),o 54 (.un .not 53),m 55 54,g 56 55 false (.ld true 4 7),g 57 55 false (.a8 12),
 g 58 55 false (.un .neg 57),g 59 55 false (.call 5 [56,58]),g 60 55 false (.un .not 59),o 61 (.pick 55 (.c (.bool true)) 60)]
def w7:=[o 8 (.a8 (k 17))]
def y5:=[o 62 (.bin .add 47 (k 1)),m 47 62]
def DM:=[o 8 (.a8 (k 0))]
def l1:=(s (p r6) (s (i 37 .skip (x 0)) (s (b 1 (s (d r7 [37,38,39]) (s (d r8 [10,40,41,42]) (i 43 (s (d r9 [1,7,34,35,36,43]) .ret) .skip)))) (d BX [43,44]))))
def l2:=(s (p s8) (s (i 48 .skip (x 2)) (s (b 3 (s (d CO [48,49,50]) (s (d w6 [12,51,52,53,54,55,56,57,58,59,60]) (i 61 (s (d w7 [7,45,46,47,61]) .ret) .skip)))) (d y5 [61,62]))))
def c:=(s (d r0 [2,3,8]) (s (s (d r1 [6,13,14,15,16,17,18,19]) (i 20 (s (d r2 [0,1,7,20]) .ret) .skip)) (s (s (d r3 [20,21,22,23,24,25,26,27,28,29,30,31,32]) (i 33 (s (d r4 [0,1,7,33]) .ret) .skip)) (s (s (d r5 [0,33]) (b 0 (w l1))) (s (s (d B2 [1,34,35,36,37]) (b 2 (w l2))) (s (d DM [7,45,46,47,48]) .ret))))))
end K4
def K4:AFn:=⟨4,K4.c,[.tmp 8],false⟩
namespace K3
def r0:=[o 6 (.a8 (.c .nil))]
def r1:=[m 10 0,o 11 (.len 10),o 12 (.mk 12 2 16 [z,z] 11 11),m 7 12]
def r2:=[m 13 0,o 14 (.len 13),o 15 (.a8 (k 0))]
def r3:=[o 16 (.bin .lss 15 14)]
def r4:=[m 17 15,o 18 (.a7 none 1 13 15),o 19 (.ld false 1 18),m 8 17,m 9 19]
def r5:=[m 20 7,m 21 8,m 22 2,m 23 8,o 24 (.bin .add 22 23),m 25 1,m 26 9,o 27 (.bin .mul 25 26),o 28 (.build [z,z] [(0,1,24),(1,1,27)]),
 o 29 (.a7 none 2 20 21),n (.st 2 29 28)]
def r6:=[o 30 (.bin .add 15 (k 1)),m 15 30]
def r7:=[m 31 7,m 6 31]
def l1:=(s (p r3) (s (i 16 .skip (x 0)) (s (b 1 (s (d r4 [16,17,18,19]) (d r5 [8,9,20,21,22,23,24,25,26,27,28,29]))) (d r6 [30]))))
def c:=(s (d r0 [6]) (s (d r1 [10,11,12]) (s (s (d r2 [0]) (b 0 (w l1))) (s (d r7 [1,2,7,13,14,15,16,31]) .ret))))
end K3
def K3:AFn:=⟨3,K3.c,[.tmp 6],false⟩
namespace K2
def r0:=[o 2 (.a8 (.c .nil))]
def r1:=[o 3 (.x8 3 2)]
def r2:=[m 6 0,o 7 (.len 6),o 8 (.a8 (k 0))]
def r3:=[o 9 (.bin .lss 8 7)]
def r4:=[o 10 (.a7 none 1 6 8),o 11 (.ld false 1 10),m 5 11]
def r5:=[m 12 3,m 13 5,o 14 (.app 14 2 16 12 13),m 3 14]
def r6:=[o 15 (.bin .add 8 (k 1)),m 8 15]
def r7:=[m 16 3,m 2 16]
def l1:=(s (p r3) (s (i 9 .skip (x 0)) (s (b 1 (s (d r4 [9,10,11]) (d r5 [5,12,13,14]))) (d r6 [15]))))
def c:=(s (d r0 [2]) (s (p r1) (s (s (d r2 [0]) (b 0 (w l1))) (s (d r7 [3,6,7,8,9,16]) .ret))))
end K2
def K2:AFn:=⟨1,K2.c,[.tmp 2],false⟩
namespace IP
def r0:=[m 7 0,o 8 (.len 7),o 9 (.a8 (k 0))]
def r1:=[o 10 (.bin .lss 9 8)]
def r2:=[m 11 9,m 6 11]
def r3:=[m 12 6,o 13 (.bin .eql 12 (k 0))]
def r4:=[m 14 0,m 15 6,m 16 2,o 17 (.a7 none 1 14 15),n (.st 1 17 16)]
def r5:=[m 18 0,m 19 6,m 20 1,m 21 6,o 22 (.bin .add 20 21),o 23 (.bin .sub 22 (k 1)),o 24 (.a7 none 1 18 19),n (.st 1 24 23)]
def r6:=[o 25 (.bin .add 9 (k 1)),m 9 25]
def l1:=(s (p r1) (s (i 10 .skip (x 0)) (s (b 1 (s (d r2 [10,11]) (s (d r3 [12]) (i 13 (d r4 [6,13,14,15,16,17]) (d r5 [6,13,18,19,20,21,22,23,24]))))) (d r6 [25]))))
def c:=(s (d r0 [7]) (b 0 (w l1)))
end IP
def IP:AFn:=⟨3,IP.c,[],false⟩
namespace KY
def r0:=[o 6 (.box 6 2),o 7 (.box 7 3),o 8 (.alloc 8 [z,z,z,z,z,z,z,z,z,.nil,.nil,z]),o 9 (.a8 (k 0))]
def r1:=[m 14 0,m 15 1,o 16 (.ld true 4 6),o 17 (.ld true 4 7),o 18 (.call 46 [14,15,16,17]),m 10 18]
def r2:=[m 19 10,o 20 (.bin .neq 19 (k 0))]
def r3:=[o 21 (.build [z,z,z,z,z,z,z,z,z,.nil,.nil,z] []),m 22 10,n (.st 12 8 21),m 9 22]
def r4:=[m 23 0,o 24 (.len 23),o 25 (.bin .sub 24 (k 1)),m 11 25]
def r5:=[m 26 11,m 27 1,o 28 (.len 27),o 29 (.bin .add 26 28),m 12 29]
def r6:=[q 30 [34,13] (.ld true 4 6),q 31 [34,13] (.ld true 4 7),m 32 12,m 33 12,o 34 (.mk 34 1 8 [z] 33 33),m 35 12,
 o 36 (.bin .add 35 (k 1)),o 37 (.build [z,z,z,z,z,z,z,z,z,.nil,.nil,z] [(0,4,30),(4,4,31),(8,1,32),(10,1,34),(11,1,36)]),
 o 13 (.alloc 13 [z,z,z,z,z,z,z,z,z,.nil,.nil,z]),n (.st 12 13 37)]
def r7:=[m 38 0,o 39 (.call 47 [38,(k 1),(k 0)]),m 40 1,m 41 11,o 42 (.bin .add 41 (k 1)),o 43 (.call 47 [40,(k (-1)),42]),o 44 (.b8 44 1 [39,43]),
 o 45 (.call 48 [44]),o 46 (.build [.nil] [(0,1,45)]),o 47 (.b8 47 1 [46]),o 48 (.a5 13 9),n (.st 1 48 47)]
def r8:=[o 49 (.a5 13 10),o 50 (.ld false 1 49),m 51 11,o 52 (.bz 1 50 none (some 51)),o 53 (.e9 49 [52,(k 1),(k 0)])]
def r9:=[o 54 (.a5 13 10),o 55 (.ld false 1 54),m 56 11,o 57 (.bz 1 55 (some 56) none),m 58 11,o 59 (.bin .add 58 (k 1)),o 60 (.a5 13 11),
 o 61 (.ld false 1 60),o 62 (.e9 49 [57,59,61])]
def BX:=[o 63 (.ld true 12 13),n (.st 12 8 63),o 9 (.a8 (k 0))]
def c:=(s (d r0 [2,3,9]) (s (s (d r1 [14,15,16,17,18]) (s (d r2 [19]) (i 20 (s (d r3 [0,1,6,7,10,20,21,22]) .ret) .skip))) (s (d r4 [10,20,23,24,25]) (s (d r5 [26,27,28,29]) (s (e r6 [6,7,12,30,31,32,33,34,35,36,37]) (s (d r7 [0,1,38,39,40,41,42,43,44,45,46,47,48]) (s (d r8 [49,50,51,52,53]) (s (e r9 [11,54,55,56,57,58,59,60,61,62]) (s (d BX [13,63]) .ret)))))))))
end KY
def KY:AFn:=⟨4,KY.c,[.cell 8 true 12,.tmp 9],false⟩
namespace KZ
def r0:=[o 6 (.box 6 2),o 7 (.box 7 3),o 8 (.alloc 8 [z,z,z,z,z,z,z,z,z,.nil,.nil,z]),o 9 (.a8 (k 0))]
def r1:=[m 15 0,m 16 1,o 17 (.ld true 4 6),o 18 (.ld true 4 7),o 19 (.call 46 [15,16,17,18]),m 10 19]
def r2:=[m 20 10,o 21 (.bin .neq 20 (k 0))]
def r3:=[o 22 (.build [z,z,z,z,z,z,z,z,z,.nil,.nil,z] []),m 23 10,n (.st 12 8 22),m 9 23]
def r4:=[m 24 0,o 25 (.len 24),o 26 (.bin .sub 25 (k 1)),m 27 1,o 28 (.len 27),o 29 (.mm true [26,28]),m 11 29]
def r5:=[m 30 11,o 31 (.bin .add 30 (k 1)),m 12 31]
def r6:=[q 32 [36,13] (.ld true 4 6),q 33 [36,13] (.ld true 4 7),m 34 11,m 35 11,o 36 (.mk 36 1 8 [z] 35 35),m 37 12,
 o 38 (.bin .add 37 (k 1)),o 39 (.build [z,z,z,z,z,z,z,z,z,.nil,.nil,z] [(0,4,32),(4,4,33),(8,1,34),(10,1,36),(11,1,38)]),
 o 13 (.alloc 13 [z,z,z,z,z,z,z,z,z,.nil,.nil,z]),n (.st 12 13 39)]
def r7:=[o 40 (.a5 7 1),o 41 (.ld false 1 40),o 42 (.bin .shl (k 1) 41),o 43 (.b8 43 1 [42]),m 14 43]
def r8:=[m 44 14,o 45 (.call 47 [44,(k 1),(k 0)]),m 46 1,o 47 (.call 47 [46,(k (-1)),(k 1)]),o 48 (.b8 48 1 [45,47]),o 49 (.call 48 [48]),
 o 50 (.build [.nil] [(0,1,49)]),m 51 0,o 52 (.bz 1 51 none (some (k 1))),m 53 12,o 54 (.call 47 [52,(k 1),53]),m 55 0,
 o 56 (.bz 1 55 (some (k 1)) none),o 57 (.call 47 [56,(k 1),(k 1)]),o 58 (.b8 58 1 [54,57]),o 59 (.call 48 [58]),o 60 (.build [.nil] [(0,1,59)]),
 o 61 (.b8 61 1 [50,60]),o 62 (.a5 13 9),n (.st 1 62 61)]
def r9:=[o 63 (.a5 13 10),o 64 (.ld false 1 63),m 65 12,o 66 (.e9 49 [64,(k 1),65])]
def BX:=[o 67 (.ld true 12 13),n (.st 12 8 67),o 9 (.a8 (k 0))]
def c:=(s (d r0 [2,3,9]) (s (s (d r1 [15,16,17,18,19]) (s (d r2 [20]) (i 21 (s (d r3 [0,1,6,7,10,21,22,23]) .ret) .skip))) (s (d r4 [10,21,24,25,26,27,28,29]) (s (d r5 [30,31]) (s (e r6 [6,11,32,33,34,35,36,37,38,39]) (s (d r7 [7,40,41,42,43]) (s (e r8 [0,1,14,44,45,46,47,48,49,50,51,52,53,54,55,56,57,58,59,60,61,62]) (s (d r9 [12,63,64,65,66]) (s (d BX [13,67]) .ret)))))))))
end KZ
def KZ:AFn:=⟨4,KZ.c,[.cell 8 true 12,.tmp 9],false⟩
namespace K0
def r0:=[o 6 (.box 6 2),o 7 (.box 7 3),o 8 (.alloc 8 [z,z,z,z,z,z,z,z,z,.nil,.nil,z]),o 9 (.a8 (k 0))]
def r1:=[m 17 0,m 18 1,o 19 (.ld true 4 6),o 20 (.ld true 4 7),o 21 (.call 46 [17,18,19,20]),m 10 21]
def r2:=[m 22 10,o 23 (.bin .neq 22 (k 0))]
def r3:=[o 24 (.build [z,z,z,z,z,z,z,z,z,.nil,.nil,z] []),m 25 10,n (.st 12 8 24),m 9 25]
def r4:=[m 26 0,o 27 (.len 26),o 28 (.bin .sub 27 (k 1)),m 29 1,o 30 (.len 29),o 31 (.mm true [28,30]),m 11 31]
def r5:=[m 32 11,o 33 (.bin .add 32 (k 1)),m 12 33]
def r6:=[q 34 [38,13] (.ld true 4 6),q 35 [38,13] (.ld true 4 7),m 36 11,m 37 11,o 38 (.mk 38 1 8 [z] 37 37),m 39 12,
 o 40 (.build [z,z,z,z,z,z,z,z,z,.nil,.nil,z] [(0,4,34),(4,4,35),(8,1,36),(10,1,38),(11,1,39)]),
 o 13 (.alloc 13 [z,z,z,z,z,z,z,z,z,.nil,.nil,z]),n (.st 12 13 40)]
def r7:=[o 41 (.a5 7 1),o 42 (.ld false 1 41),o 43 (.bin .shl (k 1) 42),o 44 (.b8 44 1 [43]),m 14 44]
def r8:=[m 45 11,o 46 (.bin .add 45 (k 1)),o 47 (.a8 (k 0))]
def r9:=[o 48 (.bin .lss 47 46)]
def BX:=[m 49 47,m 15 49]
def B2:=[o 16 (.a8 (.c .nil))]
def s8:=[m 50 15,m 51 0,o 52 (.len 51),o 53 (.bin .lss 50 52)]
def CO:=[m 54 16,m 55 0,m 56 15,m 57 15,o 58 (.bin .add 57 (k 1)),o 59 (.bz 1 55 (some 56) (some 58)),o 60 (.call 47 [59,(k 1),(k 0)]),
 o 61 (.b8 61 1 [54,60]),o 62 (.call 48 [61]),m 16 62]
def w6:=[m 63 15,o 64 (.bin .geq 63 (k 1)),m 65 64,g 66 65 true (.a8 15),g 67 65 true (.a8 1),g 68 65 true (.len 67),g 69 65 true (.bin .leq 66 68),
 o 70 (.pick 65 69 (.c (.bool false)))]
def w7:=[m 71 16,m 72 1,m 73 15,o 74 (.bin .sub 73 (k 1)),m 75 15,o 76 (.bz 1 72 (some 74) (some 75)),m 77 12,o 78 (.call 47 [76,(k (-1)),77]),
 o 79 (.b8 79 1 [71,78]),o 80 (.call 48 [79]),m 16 80]
def y5:=[m 81 15,m 82 11,o 83 (.bin .lss 81 82)]
def DM:=[m 84 16,m 85 14,m 86 15,o 87 (.bin .add 86 (k 1)),o 88 (.call 47 [85,(k 1),87]),o 89 (.b8 89 1 [84,88]),o 90 (.call 48 [89]),m 16 90]
def af:=[m 91 15,o 92 (.bin .geq 91 (k 1))]
def bm:=[o 93 (.a5 13 10),o 94 (.ld false 1 93),m 95 15,o 96 (.bin .sub 95 (k 1)),m 97 12,m 98 15,o 99 (.bin .add 97 98),o 100 (.a7 none 1 94 96),
 n (.st 1 100 99)]
def cp:=[o 101 (.a5 13 9),o 102 (.ld false 1 101),m 103 16,o 104 (.build [.nil] [(0,1,103)]),o 105 (.b8 105 1 [104]),o 106 (.app 106 1 24 102 105),
 o 107 (.a5 13 9),n (.st 1 107 106)]
def ea:=[o 108 (.bin .add 47 (k 1)),m 47 108]
def fk:=[o 109 (.ld true 12 13),n (.st 12 8 109),o 9 (.a8 (k 0))]
def l1:=(s (p r9) (s (i 48 .skip (x 0)) (s (b 1 (s (d BX [48,49]) (s (p B2) (s (s (d s8 [50,51,52]) (i 53 (d CO [53,54,55,56,57,58,59,60,61,62]) .skip)) (s (s (d w6 [53,63,64,65,66,67,68,69]) (i 70 (d w7 [70,71,72,73,74,75,76,77,78,79,80]) .skip)) (s (s (d y5 [70,81,82]) (i 83 (d DM [83,84,85,86,87,88,89,90]) .skip)) (s (s (d af [83,91]) (i 92 (d bm [15,92,93,94,95,96,97,98,99,100]) .skip)) (d cp [15,16,92,101,102,103,104,105,106,107])))))))) (d ea [108]))))
def c:=(s (d r0 [2,3,9]) (s (s (d r1 [17,18,19,20,21]) (s (d r2 [22]) (i 23 (s (d r3 [0,1,6,7,10,23,24,25]) .ret) .skip))) (s (d r4 [10,23,26,27,28,29,30,31]) (s (d r5 [32,33]) (s (e r6 [6,34,35,36,37,38,39,40]) (s (d r7 [7,41,42,43,44]) (s (s (d r8 [45]) (b 0 (w l1))) (s (d fk [0,1,11,12,13,14,46,47,48,109]) .ret))))))))
end K0
def K0:AFn:=⟨4,K0.c,[.cell 8 true 12,.tmp 9],false⟩
structure m4 (L:Lib):Prop extends mg L where
 K4:L 46=some F.K4
 K3:L 47=some F.K3
 K2:L 48=some F.K2
 IP:L 49=some F.IP
 KY:L 50=some F.KY
 KZ:L 51=some F.KZ
 K0:L 52=some F.K0
end Go.b7.F

namespace Go.b7.F
open C
namespace LJ
def r0:=[o 5 (.box 5 2),o 6 (.a8 (k 0))]
def r1:=[o 13 (.ld true 4 5),o 14 (.call 2 [13]),o 15 (.un .not 14)]
def r2:=[o 6 (.a8 (k 2))]
def r3:=[m 16 0,o 17 (.len 16),o 18 (.bin .gtr 17 (k 8)),m 19 18,g 20 19 false (.a8 1),g 21 19 false (.len 20),g 22 19 false (.a8 0),g 23 19 false (.len 22),
 g 24 19 false (.bin .add 23 (k 1)),g 25 19 false (.bin .neq 21 24),o 26 (.pick 19 (.c (.bool true)) 25)]
def r4:=[o 6 (.a8 (k 12))]
def r5:=[m 27 1,o 28 (.len 27),o 29 (.a8 (k 0))]
def r6:=[o 30 (.bin .lss 29 28)]
def r7:=[o 31 (.a7 none 1 27 29),o 32 (.ld false 1 31),m 8 32]
def r8:=[o 33 (.ld true 4 5),m 34 8,o 35 (.call 5 [33,34]),o 36 (.un .not 35)]
def r9:=[o 6 (.a8 (k 17))]
def BX:=[o 37 (.bin .add 29 (k 1)),m 29 37]
def B2:=[m 38 0,o 39 (.len 38),o 40 (.a8 (k 0))]
def s8:=[o 41 (.bin .lss 40 39)]
def CO:=[o 42 (.a7 none 1 38 40),o 43 (.ld false 1 42),m 10 43]
def w6:=[o 44 (.ld true 4 5),m 45 10,o 46 (.call 5 [44,45]),o 47 (.un .not 46),m 48 47,g 49 48 false (.ld true 4 5),g 50 48 false (.a8 10),
 g 51 48 false (.un .neg 50),g 52 48 false (.call 5 [49,51]),g 53 48 false (.un .not 52),o 54 (.pick 48 (.c (.bool true)) 53)]
def w7:=[o 6 (.a8 (k 17))]
def y5:=[o 55 (.bin .add 40 (k 1)),m 40 55]
def DM:=[m 56 0,o 57 (.len 56),o 58 (.a8 (k 0))]
def af:=[o 59 (.bin .lss 58 57)]
def bm:=[o 60 (.a7 none 1 56 58),o 61 (.ld false 1 60),m 12 61]
def cp:=[m 62 12,m 63 12,o 64 (.un .neg 63),o 65 (.mm true [62,64]),o 66 (.a5 5 1),o 67 (.ld false 1 66),o 68 (.bin .shl (k 1) 67),o 69 (.bin .geq 65 68)]
def ea:=[o 6 (.a8 (k 14))]
def fk:=[o 70 (.bin .add 58 (k 1)),m 58 70]
def gv:=[o 6 (.a8 (k 0))]
def l1:=(s (p r6) (s (i 30 .skip (x 0)) (s (b 1 (s (d r7 [30,31,32]) (s (d r8 [8,33,34,35]) (i 36 (s (d r9 [0,5,27,28,29,36]) .ret) .skip)))) (d BX [36,37]))))
def l2:=(s (p s8) (s (i 41 .skip (x 2)) (s (b 3 (s (d CO [41,42,43]) (s (d w6 [10,44,45,46,47,48,49,50,51,52,53]) (i 54 (s (d w7 [0,5,38,39,40,54]) .ret) .skip)))) (d y5 [54,55]))))
def l3:=(s (p af) (s (i 59 .skip (x 4)) (s (b 5 (s (d bm [59,60,61]) (s (d cp [12,62,63,64,65,66,67,68]) (i 69 (s (d ea [5,56,57,58,69]) .ret) .skip)))) (d fk [69,70]))))
def c:=(s (d r0 [2,6]) (s (s (d r1 [13,14]) (i 15 (s (d r2 [0,1,5,15]) .ret) .skip)) (s (s (d r3 [15,16,17,18,19,20,21,22,23,24,25]) (i 26 (s (d r4 [0,1,5,26]) .ret) .skip)) (s (s (d r5 [1,26]) (b 0 (w l1))) (s (s (d B2 [27,28,29,30]) (b 2 (w l2))) (s (s (d DM [0,38,39,40,41]) (b 4 (w l3))) (s (d gv [5,56,57,58,59]) .ret)))))))
end LJ
def LJ:AFn:=⟨3,LJ.c,[.tmp 6],false⟩
namespace LI
def r0:=[o 6 (.box 6 2),o 7 (.box 7 3),o 8 (.alloc 8 [z,z,z,z,z,z,z,z,z,.nil,.nil,z]),o 9 (.a8 (k 0))]
def r1:=[o 19 (.ld true 4 6),o 20 (.call 2 [19]),o 21 (.un .not 20)]
def r2:=[o 22 (.build [z,z,z,z,z,z,z,z,z,.nil,.nil,z] []),n (.st 12 8 22),o 9 (.a8 (k 2))]
def r3:=[m 23 0,m 24 1,o 25 (.ld true 4 7),o 26 (.call 345 [23,24,25]),m 10 26]
def r4:=[m 27 10,o 28 (.bin .neq 27 (k 0))]
def r5:=[o 29 (.build [z,z,z,z,z,z,z,z,z,.nil,.nil,z] []),m 30 10,n (.st 12 8 29),m 9 30]
def r6:=[m 31 0,o 32 (.len 31),m 11 32]
def r7:=[o 33 (.a5 7 1),o 34 (.ld false 1 33),o 35 (.bin .shl (k 1) 34),m 12 35]
def r8:=[q 36 [40,13] (.ld true 4 6),q 37 [40,13] (.ld true 4 7),m 38 11,m 39 11,o 40 (.mk 40 1 8 [z] 39 39),m 41 11,
 o 42 (.bin .mul (k 3) 41),o 43 (.bin .add 42 (k 1)),
 o 44 (.build [z,z,z,z,z,z,z,z,z,.nil,.nil,z] [(0,4,36),(4,4,37),(8,1,38),(10,1,40),(11,1,43)]),
 o 13 (.alloc 13 [z,z,z,z,z,z,z,z,z,.nil,.nil,z]),n (.st 12 13 44)]
def r9:=[m 45 11,o 46 (.bin .add 45 (k 1)),o 47 (.mk 47 1 8 [z] 46 46),m 14 47]
def BX:=[m 48 11,m 15 48]
def B2:=[m 49 15,o 50 (.bin .geq 49 (k 1))]
def CO:=[m 53 14,m 54 15,o 55 (.bin .sub 54 (k 1)),m 56 11,o 57 (.bin .add (k 1) 56),m 58 11,o 59 (.bin .add 57 58),m 60 15,o 61 (.bin .sub 59 60),
 o 62 (.a7 none 1 53 55),n (.st 1 62 61)]
def w6:=[o 63 (.a5 13 9),q 64 [79,81] (.ld false 1 63),m 65 14,m 66 15,o 67 (.a7 none 1 65 66),o 68 (.ld false 1 67),m 69 12,
 o 70 (.build [z,z] [(0,1,68),(1,1,69)]),m 71 15,m 72 0,m 73 15,o 74 (.bin .sub 73 (k 1)),o 75 (.a7 none 1 72 74),o 76 (.ld false 1 75),
 o 77 (.un .neg 76),o 78 (.build [z,z] [(0,1,71),(1,1,77)]),o 79 (.b8 79 2 [70,78]),o 80 (.build [.nil] [(0,1,79)]),o 81 (.b8 81 1 [80]),
 o 82 (.app 82 1 24 64 81),o 83 (.a5 13 9),n (.st 1 83 82)]
def s8:=[m 51 15,o 52 (.bin .sub 51 (k 1)),m 15 52]
def w7:=[m 84 11,o 85 (.bin .add 84 (k 1)),o 86 (.mk 86 1 8 [z] 85 85),m 16 86]
def y5:=[m 87 16,m 88 14,o 89 (.a7 none 1 88 (k 0)),o 90 (.ld false 1 89),o 91 (.a7 none 1 87 (k 0)),n (.st 1 91 90)]
def DM:=[m 92 14,o 93 (.a7 none 1 92 (k 0)),q 94 [17] (.ld false 1 93),m 95 1,o 96 (.a7 none 1 95 (k 0)),q 97 [17] (.ld false 1 96),
 o 98 (.build [z,z] [(0,1,94),(1,1,97)]),o 99 (.b8 99 2 [98]),o 100 (.build [.nil] [(0,1,99)]),o 17 (.alloc 17 [.nil]),n (.st 1 17 100)]
def af:=[o 18 (.a8 (k 1))]
def bm:=[m 101 18,m 102 11,o 103 (.bin .leq 101 102)]
def ea:=[m 106 16,m 107 18,m 108 11,o 109 (.bin .mul (k 2) 108),m 110 18,o 111 (.bin .add 109 110),o 112 (.a7 none 1 106 107),n (.st 1 112 111)]
def fk:=[o 113 (.a5 13 9),q 114 [129,131] (.ld false 1 113),m 115 14,m 116 18,o 117 (.bin .sub 116 (k 1)),o 118 (.a7 none 1 115 117),
 o 119 (.ld false 1 118),m 120 0,m 121 18,o 122 (.bin .sub 121 (k 1)),o 123 (.a7 none 1 120 122),o 124 (.ld false 1 123),
 o 125 (.build [z,z] [(0,1,119),(1,1,124)]),m 126 18,m 127 12,o 128 (.build [z,z] [(0,1,126),(1,1,127)]),o 129 (.b8 129 2 [125,128]),
 o 130 (.build [.nil] [(0,1,129)]),o 131 (.b8 131 1 [130]),o 132 (.app 132 1 24 114 131),o 133 (.a5 13 9),n (.st 1 133 132)]
def gv:=[o 134 (.a5 17 0),q 135 [145] (.ld false 1 134),m 136 16,m 137 18,o 138 (.a7 none 1 136 137),o 139 (.ld false 1 138),m 140 1,m 141 18,
 o 142 (.a7 none 1 140 141),o 143 (.ld false 1 142),o 144 (.build [z,z] [(0,1,139),(1,1,143)]),o 145 (.b8 145 2 [144]),
 o 146 (.app 146 2 16 135 145),o 147 (.a5 17 0),n (.st 1 147 146)]
def IW:=[o 148 (.a5 13 10),o 149 (.ld false 1 148),m 150 18,o 151 (.bin .sub 150 (k 1)),m 152 16,m 153 18,o 154 (.bin .sub 153 (k 1)),
 o 155 (.a7 none 1 152 154),o 156 (.ld false 1 155),o 157 (.a7 none 1 149 151),n (.st 1 157 156)]
def cp:=[m 104 18,o 105 (.bin .add 104 (k 1)),m 18 105]
def JV:=[o 158 (.a5 13 9),o 159 (.ld false 1 158),o 160 (.ld true 1 17),o 161 (.b8 161 1 [160]),o 162 (.app 162 1 24 159 161),o 163 (.a5 13 9),
 n (.st 1 163 162)]
def SA:=[o 164 (.ld true 12 13),n (.st 12 8 164),o 9 (.a8 (k 0))]
def l1:=(s (s (d B2 [49]) (i 50 .skip (x 0))) (s (b 1 (s (d CO [50,53,54,55,56,57,58,59,60,61,62]) (e w6 [63,64,65,66,67,68,69,70,71,72,73,74,75,76,77,78,79,80,81,82,83]))) (d s8 [51,52])))
def l2:=(s (s (d bm [101,102]) (i 103 .skip (x 2))) (s (b 3 (s (d ea [103,106,107,108,109,110,111,112]) (s (e fk [113,114,115,116,117,118,119,120,121,122,123,124,125,126,127,128,129,130,131,132,133]) (s (e gv [134,135,136,137,138,139,140,141,142,143,144,145,146,147]) (e IW [148,149,150,151,152,153,154,155,156,157]))))) (d cp [104,105])))
def c:=(s (d r0 [2,3,9]) (s (s (d r1 [19,20]) (i 21 (s (d r2 [0,1,6,7,21,22]) .ret) .skip)) (s (s (d r3 [21,23,24,25,26]) (s (d r4 [27]) (i 28 (s (d r5 [0,1,6,7,10,28,29,30]) .ret) .skip))) (s (d r6 [10,28,31,32]) (s (d r7 [33,34,35]) (s (e r8 [6,7,36,37,38,39,40,41,42,43,44]) (s (d r9 [45,46,47]) (s (s (d BX [48]) (b 0 (w l1))) (s (d w7 [15,50,84,85,86]) (s (d y5 [87,88,89,90,91]) (s (e DM [92,93,94,95,96,97,98,99,100]) (s (s (p af) (b 2 (w l2))) (s (d JV [0,1,11,12,14,16,17,18,103,158,159,160,161,162,163]) (s (d SA [13,164]) .ret))))))))))))))
end LI
def LI:AFn:=⟨4,LI.c,[.cell 8 true 12,.tmp 9],false⟩
namespace OE
def r0:=[o 2 (.box 2 0),o 4 (.a8 (.c .nil))]
def r1:=[o 8 (.a5 2 1),o 9 (.ld false 1 8),o 10 (.conv .u64 9),o 11 (.bin .shl (k 1) 10),m 5 11]
def r2:=[m 12 1,o 13 (.call 35 [12,(k 0)]),o 14 (.call 34 [13,(k 3)])]
def r3:=[o 16 (.bin .eql 14 (k 0)),m 15 16]
def r4:=[o 4 (.a8 (.c .nil))]
def r5:=[o 18 (.bin .eql 14 (k 1)),m 17 18]
def r6:=[m 19 5,o 20 (.bin .mul 19 (k 3)),o 21 (.bin .quo 20 (k 4)),m 22 1,o 23 (.call 35 [22,(k 1)]),o 24 (.b8 24 1 [23]),o 25 (.call 40 [21,24,(k 1)]),
 m 4 25]
def r7:=[m 26 5,o 27 (.bin .quo 26 (k 2)),m 28 1,o 29 (.call 35 [28,(k 1)]),o 30 (.b8 30 1 [29]),o 31 (.call 40 [27,30,(k 1)]),o 32 (.a7 none 1 31 (k 0)),
 o 33 (.ld false 1 32),m 6 33]
def r8:=[m 34 5,m 35 6,o 36 (.bin .add 34 35),o 37 (.bin .quo 36 (k 2)),m 38 1,o 39 (.call 35 [38,(k 2)]),o 40 (.b8 40 1 [39]),
 o 41 (.call 40 [37,40,(k 1)]),o 42 (.a7 none 1 41 (k 0)),o 43 (.ld false 1 42),m 7 43]
def r9:=[m 44 7,m 45 6,o 46 (.b8 46 1 [44,45]),m 4 46]
def c:=(s (d r0 [0,4]) (s (d r1 [2,8,9,10,11]) (s (s (d r2 [12,13]) (b 0 (s (d r3 [16]) (i 15 (s (d r4 [1,5,14,15]) .ret) (s (d r5 [14,15,18]) (i 17 (s (d r6 [1,5,17,19,20,21,22,23,24,25]) .ret) .skip)))))) (s (d r7 [17,26,27,28,29,30,31,32,33]) (s (d r8 [1,5,34,35,36,37,38,39,40,41,42,43]) (s (d r9 [6,7,44,45,46]) .ret))))))
end OE
def OE:AFn:=⟨2,OE.c,[.tmp 4],false⟩
namespace HQ
def r0:=[o 1 (.box 1 0),o 2 (.alloc 2 [z,z,z,z,z,z,z,z,z,.nil,.nil,z]),o 3 (.a8 (.c (.bool false)))]
def r1:=[o 11 (.a5 1 1),q 12 [4,5] (.ld false 1 11),q 13 [4,5] (.call 37 [12]),o 14 (.a5 1 2),q 15 [4,5] (.ld false 1 14),
 q 16 [4,5] (.call 38 [15]),o 4 (.alloc 4 [z,z,z,z]),o 5 (.alloc 5 [z,z,z,z]),n (.st 4 4 13),n (.st 4 5 16)]
def r2:=[o 17 (.a5 5 0),o 18 (.ld false 1 17),o 19 (.bin .sub 18 (k 1)),o 20 (.conv .u64 19),o 21 (.bin .shl (k 1) 20),o 22 (.bin .sub 21 (k 1)),
 o 23 (.a5 1 3),o 24 (.ld false 1 23),o 25 (.a5 1 3),o 26 (.ld false 1 25),o 27 (.len 26),o 28 (.call 34 [27,(k 3)]),o 29 (.bin .add (k 1) 28),
 o 30 (.call 40 [22,24,29]),m 6 30]
def r3:=[o 31 (.ld true 4 5),o 32 (.a5 1 4),o 33 (.ld false 1 32),o 34 (.call 347 [31,33]),m 7 34]
def r4:=[o 8 (.alloc 8 [z,z,z,z,z,z,z,z,z,.nil,.nil,z])]
def r5:=[o 9 (.a8 (k 0))]
def r6:=[o 35 (.a5 1 0),o 36 (.ld false 1 35),o 37 (.call 34 [36,(k 4)])]
def r9:=[o 69 (.bin .eql 37 (k 0)),m 68 69]
def BX:=[m 71 6,m 72 7,o 73 (.ld true 4 4),o 74 (.ld true 4 5),o 75 (.call 50 [71,72,73,74]),m 70 75,o 76 (.ext 70 0),o 77 (.ext 70 1),n (.st 12 8 76),
 m 9 77]
def B2:=[o 79 (.bin .eql 37 (k 1)),m 78 79]
def s8:=[m 81 6,m 82 7,o 83 (.ld true 4 4),o 84 (.ld true 4 5),o 85 (.call 51 [81,82,83,84]),m 80 85,o 86 (.ext 80 0),o 87 (.ext 80 1),n (.st 12 8 86),
 m 9 87]
def CO:=[o 89 (.bin .eql 37 (k 2)),m 88 89]
def w6:=[m 91 6,m 92 7,o 93 (.ld true 4 4),o 94 (.ld true 4 5),o 95 (.call 52 [91,92,93,94]),m 90 95,o 96 (.ext 90 0),o 97 (.ext 90 1),n (.st 12 8 96),
 m 9 97]
def r7:=[o 38 (.ld true 4 5),o 39 (.call 41 [38]),o 40 (.bin .mul 39 (k 3)),o 41 (.bin .quo 40 (k 4)),o 42 (.a5 1 4),o 43 (.ld false 1 42),o 44 (.a5 1 4),
 o 45 (.ld false 1 44),o 46 (.len 45),o 47 (.call 34 [46,(k 3)]),o 48 (.call 40 [41,43,47]),m 10 48]
def r8:=[m 50 10,o 51 (.a5 5 0),o 52 (.ld false 1 51),o 53 (.bin .sub 52 (k 1)),o 54 (.conv .u64 53),o 55 (.bin .shl (k 1) 54),o 56 (.bin .sub 55 (k 1)),
 o 57 (.a5 1 3),o 58 (.ld false 1 57),m 59 10,o 60 (.len 59),o 61 (.bin .add 60 (k 1)),o 62 (.call 40 [56,58,61]),o 63 (.ld true 4 4),
 o 64 (.ld true 4 5),o 65 (.call 346 [50,62,63,64]),m 49 65,o 66 (.ext 49 0),o 67 (.ext 49 1),n (.st 12 8 66),m 9 67]
def w7:=[o 98 (.ld true 12 8),m 99 9,o 100 (.bin .eql 99 (k 0)),n (.st 12 2 98),m 3 100]
def c:=(s (d r0 [0,3]) (s (e r1 [11,12,13,14,15,16]) (s (e r2 [17,18,19,20,21,22,23,24,25,26,27,28,29,30]) (s (d r3 [31,32,33,34]) (s (p r4) (s (d r5 [9]) (s (s (d r6 [35,36]) (b 0 (s (d r9 [69]) (i 68 (d BX [1,4,5,6,7,37,68,70,71,72,73,74,75,76,77]) (s (d B2 [68,79]) (i 78 (d s8 [1,4,5,6,7,37,78,80,81,82,83,84,85,86,87]) (s (d CO [37,78,89]) (i 88 (d w6 [1,4,5,6,7,88,90,91,92,93,94,95,96,97]) (s (e r7 [6,7,38,39,40,41,42,43,44,45,46,47,48,88]) (e r8 [1,4,5,10,49,50,51,52,53,54,55,56,57,58,59,60,61,62,63,64,65,66,67])))))))))) (s (d w7 [8,9,98,99,100]) .ret))))))))
end HQ
def HQ:AFn:=⟨1,HQ.c,[.cell 2 true 12,.tmp 3],false⟩
structure y7 (L:Lib):Prop extends m4 L where
 LJ:L 345=some F.LJ
 LI:L 346=some F.LI
 OE:L 347=some F.OE
 HQ:L 348=some F.HQ
end Go.b7.F

namespace Go.b7.F
open C
namespace LL
def r0:=[o 0 (.a8 (.c (.bool false)))]
def r1:=[o 7 (.call 124 [(k 1)]),o 8 (.call 125 [(k 1),(k 2)]),o 1 (.alloc 1 [(.bool false),.nil,.nil]),o 2 (.alloc 2 [(.bool false),.nil,.nil]),n (.st 3 1 7),
 n (.st 3 2 8)]
def r2:=[q 10 [15,3] (.ld true 3 1),o 11 (.b8 11 3 [10]),q 12 [11,3] (.ld true 3 1),q 13 [11,3] (.ld true 3 2),
 q 14 [11,3] (.call 152 [13]),o 15 (.b8 15 3 [12,14]),o 16 (.build [.nil,.nil] [(0,1,11),(1,1,15)]),
 q 17 [3] (.call 207 [16]),m 9 17,o 18 (.ext 9 0),o 19 (.ext 9 1),o 3 (.alloc 3 [.nil,.nil,.nil,(.bool false),.nil,.nil]),n (.st 6 3 18),
 m 4 19]
def r3:=[o 21 (.ld true 6 3),o 22 (.call 307 [21]),m 20 22,o 23 (.ext 20 0),o 24 (.ext 20 1),o 5 (.alloc 5 [(.bool false),.nil,.nil]),n (.st 3 5 23),m 6 24]
def r4:=[m 25 4,o 26 (.bin .eql 25 (k 0)),m 27 26,g 28 27 true (.a8 6),g 29 27 true (.bin .eql 28 (k 0)),o 30 (.pick 27 29 (.c (.bool false))),m 31 30,
 g 32 31 true (.ld true 3 5),g 33 31 true (.call 124 [(k 2)]),g 34 31 true (.call 127 [32,33]),g 35 31 true (.bin .eql 34 (k 0)),
 o 36 (.pick 31 35 (.c (.bool false))),m 0 36]
def c:=(s (d r0 [0]) (s (d r1 [7,8]) (s (e r2 [1,2,9,10,11,12,13,14,15,16,17,18,19]) (s (d r3 [3,20,21,22,23,24]) (s (e r4 [4,5,6,25,26,27,28,29,30,31,32,33,34,35,36]) .ret)))))
end LL
def LL:AFn:=⟨0,LL.c,[.tmp 0],false⟩
structure dn (L:Lib):Prop extends l7 L where
 LL:L 318=some F.LL
end Go.b7.F

namespace Go.b7.F
open C
namespace MT
def r0:=[o 1 (.box 1 0),o 2 (.a8 (.c (.bool false)))]
def r1:=[o 3 (.ld true 12 1),o 4 (.call 21 [3]),m 5 4,g 6 5 true (.a5 1 8),g 7 5 true (.ld false 1 6),g 8 5 true (.bin .leq 7 (k 16)),
 o 9 (.pick 5 8 (.c (.bool false))),m 2 9]
def c:=(s (d r0 [0,2]) (s (d r1 [1,3,4,5,6,7,8,9]) .ret))
end MT
def MT:AFn:=⟨1,MT.c,[.tmp 2],false⟩
namespace MN
def r0:=[o 2 (.box 2 0),o 4 (.alloc 4 [(.bool false),.nil,.nil])]
def r1:=[o 9 (.a5 2 4),o 10 (.a5 9 1),o 11 (.ld false 1 10),o 12 (.bin .shl (k 1) 11),m 5 12]
def r2:=[o 6 (.a8 (.c (.bool true)))]
def r3:=[o 13 (.a5 2 9),o 14 (.ld false 1 13),m 15 1,o 16 (.a7 none 1 14 15),o 17 (.a5 16 0),o 18 (.ld false 1 17),o 19 (.len 18),o 20 (.a8 (k 0))]
def r4:=[o 21 (.bin .lss 20 19)]
def r5:=[o 22 (.a7 none 2 18 20),o 23 (.ld true 2 22),o 8 (.alloc 8 [z,z]),n (.st 2 8 23)]
def r6:=[o 24 (.a5 8 1),o 25 (.ld false 1 24),m 26 5,o 27 (.bin .rem 25 26),o 28 (.bin .neq 27 (k 0))]
def r7:=[o 6 (.a8 (.c (.bool false)))]
def r8:=[o 29 (.bin .add 20 (k 1)),m 20 29]
def r9:=[m 31 6,m 30 31]
def BX:=[o 32 (.call 96 [(k 0)]),n (.st 3 4 32)]
def B2:=[o 34 (.a5 2 0),o 35 (.a5 34 2),o 36 (.ld false 1 35),o 37 (.bin .eql 36 (k 2)),m 33 37]
def s8:=[o 38 (.call 151 [(k 1),(k 2)]),n (.st 3 4 38)]
def CO:=[o 39 (.call 96 [(k 1)]),n (.st 3 4 39)]
def l1:=(s (p r4) (s (i 21 .skip (x 0)) (s (b 1 (s (d r5 [21,22,23]) (s (d r6 [8,24,25,26,27]) (i 28 (d r7 [28]) .skip)))) (d r8 [28,29]))))
def c:=(s (d r0 [0]) (s (d r1 [9,10,11,12]) (s (p r2) (s (s (d r3 [1,13,14,15,16,17]) (b 0 (w l1))) (s (b 2 (s (d r9 [5,6,18,19,20,21,31]) (i 30 (s (d BX [2,30,32]) .ret) (s (d B2 [2,30,34,35,36,37]) (i 33 (s (d s8 [33,38]) .ret) .skip))))) (s (d CO [33,39]) .ret))))))
end MN
def MN:AFn:=⟨2,MN.c,[.cell 4 true 3],false⟩
namespace JU
def r0:=[o 2 (.box 2 0),o 4 (.a8 (.c .nil))]
def r1:=[o 14 (.a5 2 8),o 15 (.ld false 1 14),o 16 (.bin .add 15 (k 1)),m 5 16]
def r2:=[m 17 5,o 18 (.a5 2 9),o 19 (.ld false 1 18),o 20 (.len 19),o 21 (.bin .add 17 20),o 22 (.mk 22 3 56 [(.bool false),.nil,.nil] 21 21),m 6 22]
def r3:=[m 23 5,o 24 (.a8 (k 0))]
def r4:=[o 25 (.bin .lss 24 23)]
def r5:=[m 26 24,m 7 26]
def r6:=[m 27 6,m 28 7,o 29 (.call 96 [(k 0)]),o 30 (.a7 none 3 27 28),n (.st 3 30 29)]
def r7:=[o 31 (.bin .add 24 (k 1)),m 24 31]
def r8:=[m 32 1,m 33 5,o 34 (.bin .lss 32 33)]
def r9:=[m 35 6,m 36 1,o 37 (.call 96 [(k 1)]),o 38 (.a7 none 3 35 36),n (.st 3 38 37)]
def BX:=[o 39 (.a5 2 4),o 40 (.a5 39 1),o 41 (.ld false 1 40),o 42 (.bin .shl (k 1) 41),o 43 (.call 151 [(k 1),42]),o 8 (.alloc 8 [(.bool false),.nil,.nil]),
 n (.st 3 8 43)]
def B2:=[o 44 (.a5 2 9),o 45 (.ld false 1 44),o 46 (.len 45),o 47 (.a8 (k 0))]
def s8:=[o 48 (.bin .lss 47 46)]
def CO:=[m 49 47,o 50 (.a7 none 1 45 47),o 51 (.ld true 1 50),o 10 (.alloc 10 [.nil]),m 9 49,n (.st 1 10 51)]
def w6:=[o 52 (.call 96 [(k 0)]),o 11 (.alloc 11 [(.bool false),.nil,.nil]),n (.st 3 11 52)]
def w7:=[o 53 (.a5 10 0),o 54 (.ld false 1 53),o 55 (.len 54),o 56 (.a8 (k 0))]
def y5:=[o 57 (.bin .lss 56 55)]
def DM:=[o 58 (.a7 none 2 54 56),o 59 (.ld true 2 58),o 13 (.alloc 13 [z,z]),n (.st 2 13 59)]
def af:=[m 60 6,o 61 (.a5 13 0),o 62 (.ld false 1 61),o 63 (.a7 none 3 60 62),o 64 (.ld true 3 63),o 65 (.call 97 [64]),o 66 (.bin .neq 65 (k 0))]
def bm:=[o 67 (.ld true 3 11),m 68 6,o 69 (.a5 13 0),o 70 (.ld false 1 69),o 71 (.a7 none 3 68 70),o 72 (.ld true 3 71),o 73 (.a5 13 1),
 o 74 (.ld false 1 73),o 75 (.call 96 [74]),o 76 (.call 99 [72,75]),o 77 (.call 98 [67,76]),n (.st 3 11 77)]
def cp:=[o 78 (.bin .add 56 (k 1)),m 56 78]
def ea:=[m 79 6,m 80 5,m 81 9,o 82 (.bin .add 80 81),o 83 (.ld true 3 11),o 84 (.ld true 3 8),o 85 (.call 99 [83,84]),o 86 (.a7 none 3 79 82),n (.st 3 86 85)]
def fk:=[m 87 5,m 88 9,o 89 (.bin .add 87 88),m 90 1,o 91 (.bin .eql 89 90)]
def gv:=[m 92 6,m 93 1,o 94 (.call 96 [(k 1)]),o 95 (.a7 none 3 92 93),n (.st 3 95 94)]
def IW:=[o 96 (.bin .add 47 (k 1)),m 47 96]
def JV:=[m 97 6,m 4 97]
def l1:=(s (p r4) (s (i 25 .skip (x 0)) (s (b 1 (s (d r5 [25,26]) (d r6 [7,27,28,29,30]))) (d r7 [31]))))
def l3:=(s (p y5) (s (i 57 .skip (x 4)) (s (b 5 (s (d DM [57,58,59]) (s (d af [60,61,62,63,64,65]) (i 66 (e bm [13,66,67,68,69,70,71,72,73,74,75,76,77]) .skip)))) (d cp [13,66,78]))))
def l2:=(s (p s8) (s (i 48 .skip (x 2)) (s (b 3 (s (d CO [48,49,50,51]) (s (d w6 [52]) (s (s (d w7 [10,53]) (b 4 (w l3))) (s (d ea [11,54,55,56,57,79,80,81,82,83,84,85,86]) (s (d fk [9,87,88,89,90]) (i 91 (d gv [91,92,93,94,95]) .skip))))))) (d IW [91,96]))))
def c:=(s (d r0 [0,4]) (s (d r1 [14,15,16]) (s (d r2 [17,18,19,20,21,22]) (s (s (p r3) (b 0 (w l1))) (s (s (d r8 [23,24,25,32,33]) (i 34 (d r9 [34,35,36,37,38]) .skip)) (s (d BX [34,39,40,41,42,43]) (s (s (d B2 [2,44]) (b 2 (w l2))) (s (d JV [1,5,6,8,45,46,47,48,97]) .ret))))))))
end JU
def JU:AFn:=⟨2,JU.c,[.tmp 4],false⟩
namespace MO
def r0:=[o 4 (.a8 (.c .nil))]
def r1:=[m 7 0,o 8 (.len 7),o 9 (.mk 9 3 56 [(.bool false),.nil,.nil] 8 8),m 5 9]
def r2:=[m 10 0,o 11 (.len 10),o 12 (.a8 (k 0))]
def r3:=[o 13 (.bin .lss 12 11)]
def r4:=[m 14 12,m 6 14]
def r5:=[m 15 5,m 16 6,m 17 0,m 18 6,o 19 (.a7 none 1 17 18),o 20 (.ld false 1 19),m 21 1,o 22 (.a7 none 3 20 21),o 23 (.ld true 3 22),
 o 24 (.a7 none 3 15 16),n (.st 3 24 23)]
def r6:=[o 25 (.bin .add 12 (k 1)),m 12 25]
def r7:=[m 26 5,m 4 26]
def l1:=(s (p r3) (s (i 13 .skip (x 0)) (s (b 1 (s (d r4 [13,14]) (d r5 [6,15,16,17,18,19,20,21,22,23,24]))) (d r6 [25]))))
def c:=(s (d r0 [4]) (s (d r1 [7,8,9]) (s (s (d r2 [10]) (b 0 (w l1))) (s (d r7 [0,1,5,11,12,13,26]) .ret))))
end MO
def MO:AFn:=⟨2,MO.c,[.tmp 4],false⟩
namespace MC
def r0:=[o 2 (.box 2 0),o 4 (.alloc 4 [(.bool false),.nil,.nil])]
def r1:=[o 5 (.a5 2 0),o 6 (.ld true 3 5),m 7 1,o 8 (.call 96 [7]),o 9 (.call 99 [6,8]),o 10 (.a5 2 3),o 11 (.ld true 3 10),o 12 (.call 98 [9,11]),
 n (.st 3 4 12)]
def c:=(s (d r0 [0]) (s (e r1 [1,2,5,6,7,8,9,10,11,12]) .ret))
end MC
def MC:AFn:=⟨2,MC.c,[.cell 4 true 3],false⟩
namespace ME
def r0:=[o 6 (.alloc 354006 [(.bool false),.nil,.nil,(.bool false),.nil,.nil])]
def r1:=[o 18 (.ld false 1 1),m 19 0,o 20 (.call 352 [18,19]),m 7 20]
def r2:=[m 21 7,o 22 (.b8 354022 1 [21]),o 23 (.call 295 [22]),o 8 (.alloc 354008 [(.bool false),.nil,.nil]),n (.st 3 8 23)]
def r3:=[m 24 7,o 25 (.ld true 3 8),o 26 (.call 296 [24,25]),m 7 26]
def r4:=[o 27 (.a5 2 5),q 28 [354009] (.ld true 3 27),q 29 [354009] (.ld true 3 3),q 30 [354009] (.ld true 3 8),
 q 31 [354009] (.call 99 [29,30]),q 32 [354009] (.call 99 [28,31]),o 9 (.alloc 354009 [(.bool false),.nil,.nil]),n (.st 3 9 32)]
def r5:=[o 33 (.call 96 [(k 0)]),o 34 (.call 96 [(k 0)]),o 35 (.build [(.bool false),.nil,.nil,(.bool false),.nil,.nil] [(0,3,33),(3,3,34)]),
 o 10 (.alloc 354010 [(.bool false),.nil,.nil,(.bool false),.nil,.nil]),n (.st 6 10 35)]
def r6:=[o 36 (.call 96 [(k 0)]),o 37 (.call 96 [(k 0)]),o 38 (.build [(.bool false),.nil,.nil,(.bool false),.nil,.nil] [(0,3,36),(3,3,37)]),
 o 11 (.alloc 354011 [(.bool false),.nil,.nil,(.bool false),.nil,.nil]),n (.st 6 11 38)]
def r7:=[o 39 (.ld false 1 4),o 40 (.len 39),o 41 (.a8 (k 0))]
def r8:=[o 42 (.bin .lss 41 40)]
def r9:=[m 43 41,o 44 (.a7 none 8 39 41),o 45 (.ld true 8 44),o 13 (.alloc 354013 [.nil,(.bool false),.nil,.nil,.nil,(.bool false),.nil,.nil]),m 12 43,
 n (.st 8 13 45)]
def BX:=[m 46 12,o 47 (.mm false [46,(k 1)]),m 14 47]
def B2:=[m 48 14,m 49 14,o 50 (.a7 (some 2) 3 10 49),o 51 (.ld true 3 50),o 52 (.a5 13 1),o 53 (.ld true 3 52),o 54 (.a5 13 0),o 55 (.ld false 1 54),
 m 56 0,o 57 (.a7 none 3 55 56),o 58 (.ld true 3 57),o 59 (.call 256 [58]),o 60 (.call 99 [53,59]),o 61 (.call 98 [51,60]),
 o 62 (.a7 (some 2) 3 10 48),n (.st 3 62 61)]
def s8:=[m 63 14,m 64 14,o 65 (.a7 (some 2) 3 11 64),o 66 (.ld true 3 65),o 67 (.a5 13 1),o 68 (.ld true 3 67),o 69 (.ld true 8 2),m 70 7,o 71 (.a5 13 4),
 o 72 (.ld true 4 71),o 73 (.call 305 [69,70,72]),o 74 (.call 99 [68,73]),o 75 (.call 98 [66,74]),o 76 (.a7 (some 2) 3 11 63),n (.st 3 76 75)]
def CO:=[o 77 (.bin .add 41 (k 1)),m 41 77]
def w6:=[o 78 (.a8 (k 0))]
def w7:=[o 79 (.bin .lss 78 (k 2))]
def y5:=[m 80 78,m 15 80]
def DM:=[m 82 15,o 83 (.a7 (some 2) 3 11 82),q 84 [354016] (.ld true 3 83),q 85 [354016] (.ld true 3 9),
 q 86 [354016] (.call 100 [84,85]),m 81 86,o 87 (.ext 81 0),o 88 (.ext 81 1),o 16 (.alloc 354016 [(.bool false),.nil,.nil]),n (.st 3 16 87),
 m 17 88]
def af:=[m 89 15,m 90 15,o 91 (.a7 (some 2) 3 10 90),o 92 (.ld true 3 91),o 93 (.ld true 3 16),o 94 (.call 98 [92,93]),o 95 (.a7 (some 2) 3 10 89),
 n (.st 3 95 94)]
def bm:=[o 96 (.bin .add 78 (k 1)),m 78 96]
def cp:=[o 97 (.a7 (some 2) 3 10 (k 0)),o 98 (.ld true 3 97),o 99 (.a7 (some 2) 3 10 (k 1)),o 100 (.ld true 3 99),
 o 101 (.build [(.bool false),.nil,.nil,(.bool false),.nil,.nil] [(0,3,98),(3,3,100)]),n (.st 6 6 101)]
def l1:=(s (p r8) (s (i 42 .skip (x 0)) (s (b 1 (s (d r9 [42,43,44,45]) (s (d BX [12,46,47]) (s (e B2 [48,49,50,51,52,53,54,55,56,57,58,59,60,61,62]) (e s8 [13,14,63,64,65,66,67,68,69,70,71,72,73,74,75,76]))))) (d CO [77]))))
def l2:=(s (p w7) (s (i 79 .skip (x 2)) (s (b 3 (s (d y5 [79,80]) (s (e DM [17,81,82,83,84,85,86,87,88]) (e af [15,16,89,90,91,92,93,94,95])))) (d bm [96]))))
def c:=(s (p r0) (s (d r1 [1,18,19,20]) (s (d r2 [21,22,23]) (s (d r3 [24,25,26]) (s (e r4 [3,8,27,28,29,30,31,32]) (s (d r5 [33,34,35]) (s (d r6 [36,37,38]) (s (s (d r7 [4]) (b 0 (w l1))) (s (s (d w6 [0,2,7,39,40,41,42]) (b 2 (w l2))) (s (d cp [9,10,11,78,79,97,98,99,100,101]) .ret))))))))))
end ME
def ME:AFn:=⟨5,ME.c,[.cell 6 true 6],false⟩
namespace ML
def r0:=[o 3 (.box 355003 0),o 4 (.box 355004 1),o 6 (.alloc 355006 [(.bool false),.nil,.nil])]
def r1:=[m 14 2,o 15 (.len 14),o 16 (.mk 355016 1 24 [.nil] 15 15),m 7 16]
def r2:=[m 17 2,o 18 (.len 17),o 19 (.a8 (k 0))]
def r3:=[o 20 (.bin .lss 19 18)]
def r4:=[m 21 19,o 22 (.a7 none 8 17 19),o 23 (.ld true 8 22),o 9 (.alloc 355009 [.nil,(.bool false),.nil,.nil,.nil,(.bool false),.nil,.nil]),m 8 21,
 n (.st 8 9 23)]
def r5:=[o 24 (.a5 4 10),o 25 (.ld false 1 24),o 26 (.len 25),o 27 (.a8 (k 0))]
def r6:=[o 28 (.bin .lss 27 26)]
def r7:=[o 29 (.a7 none 1 25 27),o 30 (.ld false 1 29),m 11 30]
def r8:=[m 31 7,m 32 8,m 33 7,m 34 8,o 35 (.a7 none 1 33 34),q 36 [355042] (.ld false 1 35),o 37 (.a5 9 0),o 38 (.ld false 1 37),m 39 11,
 o 40 (.a7 none 3 38 39),o 41 (.ld true 3 40),o 42 (.b8 355042 3 [41]),o 43 (.app 355043 3 56 36 42),o 44 (.a7 none 1 31 32),n (.st 1 44 43)]
def r9:=[o 45 (.bin .add 27 (k 1)),m 27 45]
def BX:=[o 46 (.bin .add 19 (k 1)),m 19 46]
def B2:=[m 47 7,o 48 (.call 295 [47]),o 12 (.alloc 355012 [(.bool false),.nil,.nil]),n (.st 3 12 48)]
def s8:=[m 49 2,o 50 (.len 49),o 51 (.a8 (k 0))]
def CO:=[o 52 (.bin .lss 51 50)]
def w6:=[m 53 51,m 13 53]
def w7:=[m 54 2,m 55 13,o 56 (.ld true 8 3),m 57 7,m 58 13,o 59 (.a7 none 1 57 58),o 60 (.ld false 1 59),o 61 (.ld true 3 12),o 62 (.call 296 [60,61]),
 o 63 (.l8 304 [56,62]),o 64 (.a7 none 8 54 55),o 65 (.a5 64 4),n (.st 4 65 63)]
def y5:=[o 66 (.bin .add 51 (k 1)),m 51 66]
def DM:=[o 67 (.ld true 3 12),n (.st 3 6 67)]
def l2:=(s (p r6) (s (i 28 .skip (x 2)) (s (b 3 (s (d r7 [28,29,30]) (e r8 [11,31,32,33,34,35,36,37,38,39,40,41,42,43,44]))) (d r9 [45]))))
def l1:=(s (p r3) (s (i 20 .skip (x 0)) (s (b 1 (s (d r4 [20,21,22,23]) (s (d r5 [24]) (b 2 (w l2))))) (d BX [8,9,25,26,27,28,46]))))
def l3:=(s (p CO) (s (i 52 .skip (x 4)) (s (b 5 (s (d w6 [52,53]) (e w7 [13,54,55,56,57,58,59,60,61,62,63,64,65]))) (d y5 [66]))))
def c:=(s (d r0 [0,1]) (s (d r1 [14,15,16]) (s (s (p r2) (b 0 (w l1))) (s (d B2 [4,17,18,19,20,47,48]) (s (s (d s8 [49]) (b 4 (w l3))) (s (d DM [2,3,7,12,50,51,52,67]) .ret))))))
end ML
def ML:AFn:=⟨3,ML.c,[.cell 6 true 3],false⟩
namespace MD
def r0:=[o 1 (.box 356001 0),o 2 (.a8 (.c (.x9 .nilFunc))),o 3 (.a8 (k 0))]
def r1:=[o 15 (.a5 1 8),o 16 (.ld false 1 15),o 17 (.mk 356017 1 24 [.nil] 16 16),o 4 (.alloc 356004 [.nil]),n (.st 1 4 17)]
def r2:=[o 18 (.ld false 1 4),o 19 (.len 18),o 20 (.a8 (k 0))]
def r3:=[o 21 (.bin .lss 20 19)]
def r4:=[m 22 20,m 5 22]
def r5:=[q 23 [356028] (.ld false 1 4),m 24 5,o 25 (.ld true 12 1),m 26 5,o 27 (.bin .add (k 1) 26),o 28 (.o8 356028 351 [25,27]),
 o 29 (.a7 none 1 23 24),n (.st 1 29 28)]
def r6:=[o 30 (.bin .add 20 (k 1)),m 20 30]
def r7:=[o 6 (.x8 356006 1)]
def r8:=[o 31 (.a5 1 10),o 32 (.ld false 1 31),o 33 (.len 32),o 34 (.a8 (k 0))]
def r9:=[o 35 (.bin .lss 34 33)]
def BX:=[o 36 (.a7 none 1 32 34),o 37 (.ld false 1 36),m 8 37]
def B2:=[m 38 6,o 39 (.ld false 1 4),m 40 8,o 41 (.call 352 [39,40]),o 42 (.b8 356042 1 [41]),o 43 (.app 356043 1 24 38 42),m 6 43]
def s8:=[o 44 (.bin .add 34 (k 1)),m 34 44]
def CO:=[m 46 6,o 47 (.call 303 [46]),m 45 47,o 48 (.ext 45 0),o 49 (.ext 45 1),o 9 (.alloc 356009 [.nil,(.bool false),.nil,.nil,z,(.bool false),.nil,.nil]),
 n (.st 8 9 48),m 10 49]
def w6:=[m 50 10,o 51 (.bin .neq 50 (k 0))]
def w7:=[m 52 10,o 2 (.a8 (.c (.x9 .nilFunc))),m 3 52]
def y5:=[o 53 (.ld true 12 1),o 54 (.call 351 [53,(k 0)]),o 55 (.call 96 [(k 1)]),
 o 56 (.build [.nil,(.bool false),.nil,.nil,.nil,(.bool false),.nil,.nil] [(0,1,54),(1,3,55)]),o 57 (.b8 356057 8 [56]),
 o 11 (.alloc 356011 [.nil]),n (.st 1 11 57)]
def DM:=[o 58 (.a5 1 9),o 59 (.ld false 1 58),o 60 (.len 59),o 61 (.a8 (k 0))]
def af:=[o 62 (.bin .lss 61 60)]
def bm:=[m 63 61,m 12 63]
def cp:=[o 64 (.ld true 12 1),m 65 12,o 66 (.call 350 [64,65]),o 13 (.alloc 356013 [(.bool false),.nil,.nil]),n (.st 3 13 66)]
def ea:=[o 67 (.ld true 3 13),o 68 (.call 97 [67]),o 69 (.bin .gtr 68 (k 0))]
def fk:=[q 70 [356080] (.ld false 1 11),o 71 (.ld true 12 1),o 72 (.a5 1 8),o 73 (.ld false 1 72),o 74 (.bin .add (k 1) 73),m 75 12,
 o 76 (.bin .add 74 75),o 77 (.call 351 [71,76]),o 78 (.ld true 3 13),
 o 79 (.build [.nil,(.bool false),.nil,.nil,.nil,(.bool false),.nil,.nil] [(0,1,77),(1,3,78)]),o 80 (.b8 356080 8 [79]),
 o 81 (.app 356081 8 160 70 80),n (.st 1 11 81)]
def gv:=[o 82 (.bin .add 61 (k 1)),m 61 82]
def IW:=[o 83 (.ld true 8 9),o 84 (.ld true 12 1),o 85 (.ld false 1 11),o 86 (.e9 355 [83,84,85]),o 14 (.alloc 356014 [(.bool false),.nil,.nil]),
 n (.st 3 14 86)]
def JV:=[o 87 (.ki false 354 [4,9,14,11]),m 2 87,o 3 (.a8 (k 0))]
def l1:=(s (p r3) (s (i 21 .skip (x 0)) (s (b 1 (s (d r4 [21,22]) (e r5 [5,23,24,25,26,27,28,29]))) (d r6 [30]))))
def l2:=(s (p r9) (s (i 35 .skip (x 2)) (s (b 3 (s (d BX [35,36,37]) (d B2 [8,38,39,40,41,42,43]))) (d s8 [44]))))
def l3:=(s (p af) (s (i 62 .skip (x 4)) (s (b 5 (s (d bm [62,63]) (s (d cp [64,65,66]) (s (d ea [67,68]) (i 69 (e fk [12,13,69,70,71,72,73,74,75,76,77,78,79,80,81]) .skip))))) (d gv [12,13,69,82]))))
def c:=(s (d r0 [0,2,3]) (s (d r1 [15,16,17]) (s (s (d r2 [18]) (b 0 (w l1))) (s (d r7 [19,20,21]) (s (s (d r8 [31]) (b 2 (w l2))) (s (d CO [6,32,33,34,35,45,46,47,48,49]) (s (s (d w6 [50]) (i 51 (s (d w7 [1,4,9,10,51,52]) .ret) .skip)) (s (d y5 [10,51,53,54,55,56,57]) (s (s (d DM [58,59]) (b 4 (w l3))) (s (d IW [1,60,61,62,83,84,85,86]) (s (d JV [4,9,11,14,87]) .ret)))))))))))
end MD
def MD:AFn:=⟨1,MD.c,[.tmp 2,.tmp 3],false⟩
namespace L9
def r0:=[o 2 (.box 2 0),o 4 (.a8 (.c (.bool false))),o 5 (.a8 (k 0))]
def r1:=[o 10 (.ld true 12 2),o 11 (.call 349 [10]),o 12 (.un .not 11)]
def r2:=[o 4 (.a8 (.c (.bool false))),o 5 (.a8 (k 2))]
def r3:=[o 13 (.a5 2 0),o 14 (.ld true 4 13),o 15 (.call 4 [14]),m 6 15]
def r4:=[m 16 1,o 17 (.bin .lss 16 (k 0)),m 18 17,g 19 18 false (.a8 1),g 20 18 false (.a8 6),g 21 18 false (.bin .gtr 19 20),
 o 22 (.pick 18 (.c (.bool true)) 21)]
def r5:=[o 4 (.a8 (.c (.bool false))),o 5 (.a8 (k 1))]
def r6:=[o 24 (.ld true 12 2),o 25 (.e9 356 [24]),m 23 25,o 26 (.ext 23 0),o 27 (.ext 23 1),m 7 26,m 8 27]
def r7:=[m 28 8,o 29 (.bin .neq 28 (k 0))]
def r8:=[m 30 8,o 4 (.a8 (.c (.bool false))),m 5 30]
def r9:=[o 31 (.a5 2 9),o 32 (.ld false 1 31),o 33 (.len 32),o 34 (.a8 (k 0))]
def BX:=[o 35 (.bin .lss 34 33)]
def B2:=[m 36 34,m 9 36]
def s8:=[m 37 7,o 38 (.a5 2 8),o 39 (.ld false 1 38),o 40 (.bin .add (k 1) 39),m 41 9,o 42 (.bin .add 40 41),o 43 (.m6 37 [42]),m 44 1,
 o 45 (.call 353 [43,44]),m 46 6,o 47 (.call 96 [46]),o 48 (.call 198 [45,47]),o 49 (.bin .gtr 48 (k 0))]
def CO:=[o 4 (.a8 (.c (.bool false))),o 5 (.a8 (k 0))]
def w6:=[o 50 (.bin .add 34 (k 1)),m 34 50]
def w7:=[o 4 (.a8 (.c (.bool true))),o 5 (.a8 (k 0))]
def l1:=(s (p BX) (s (i 35 .skip (x 0)) (s (b 1 (s (d B2 [35,36]) (s (d s8 [9,37,38,39,40,41,42,43,44,45,46,47,48]) (i 49 (s (d CO [1,2,6,7,33,34,49]) .ret) .skip)))) (d w6 [49,50]))))
def c:=(s (d r0 [0,4,5]) (s (s (d r1 [10,11]) (i 12 (s (d r2 [1,2,12]) .ret) .skip)) (s (d r3 [12,13,14,15]) (s (s (d r4 [16,17,18,19,20,21]) (i 22 (s (d r5 [1,2,6,22]) .ret) .skip)) (s (d r6 [22,23,24,25,26,27]) (s (s (d r7 [28]) (i 29 (s (d r8 [1,2,6,7,8,29,30]) .ret) .skip)) (s (s (d r9 [8,29,31,32]) (b 0 (w l1))) (s (d w7 [1,2,6,7,33,34,35]) .ret))))))))
end L9
def L9:AFn:=⟨2,L9.c,[.tmp 4,.tmp 5],false⟩
namespace L8
def r0:=[o 1 (.box 1 0),o 2 (.a8 (k 0)),o 3 (.a8 (k 0))]
def r1:=[o 12 (.ld true 12 1),o 13 (.call 349 [12]),o 14 (.un .not 13)]
def r2:=[o 2 (.a8 (k 0)),o 3 (.a8 (k 2))]
def r3:=[o 16 (.ld true 12 1),o 17 (.e9 356 [16]),m 15 17,o 18 (.ext 15 0),o 19 (.ext 15 1),m 4 18,m 5 19]
def r4:=[m 20 5,o 21 (.bin .neq 20 (k 0))]
def r5:=[m 22 5,o 2 (.a8 (k 0)),m 3 22]
def r6:=[o 23 (.a5 1 0),o 24 (.ld true 4 23),o 25 (.call 4 [24]),o 26 (.call 96 [25]),o 6 (.alloc 6 [(.bool false),.nil,.nil]),n (.st 3 6 26)]
def r7:=[o 27 (.a5 1 0),o 28 (.ld true 4 27),o 29 (.call 4 [28]),m 7 29]
def r8:=[o 30 (.a5 1 9),o 31 (.ld false 1 30),o 32 (.len 31),o 33 (.a8 (k 0))]
def r9:=[o 34 (.bin .lss 33 32)]
def BX:=[m 35 33,m 8 35]
def B2:=[m 36 4,o 37 (.a5 1 8),o 38 (.ld false 1 37),o 39 (.bin .add (k 1) 38),m 40 8,o 41 (.bin .add 39 40),o 42 (.m6 36 [41]),
 o 9 (.alloc 9 [(.bool false),.nil,.nil,(.bool false),.nil,.nil]),n (.st 6 9 42)]
def s8:=[o 43 (.a5 9 3),o 44 (.ld true 3 43),o 45 (.ld true 3 6),o 46 (.call 198 [44,45]),o 47 (.bin .gtr 46 (k 0))]
def CO:=[o 2 (.a8 (k 0)),o 3 (.a8 (k 18))]
def w6:=[o 10 (.a8 (k 0))]
def w7:=[m 48 10,m 49 7,o 50 (.bin .lss 48 49)]
def y5:=[m 51 10,m 52 7,o 53 (.bin .add 51 52),o 54 (.bin .add 53 (k 1)),o 55 (.bin .quo 54 (k 2)),m 11 55]
def DM:=[o 56 (.ld true 6 9),m 57 11,o 58 (.call 353 [56,57]),o 59 (.ld true 3 6),o 60 (.call 198 [58,59]),o 61 (.bin .gtr 60 (k 0))]
def af:=[m 62 11,o 63 (.bin .sub 62 (k 1)),m 7 63]
def bm:=[m 64 11,m 10 64]
def cp:=[o 65 (.bin .add 33 (k 1)),m 33 65]
def ea:=[m 66 7,m 2 66,o 3 (.a8 (k 0))]
def l2:=(s (s (d w7 [48,49]) (i 50 .skip (x 2))) (b 3 (s (d y5 [50,51,52,53,54,55]) (s (e DM [56,57,58,59,60]) (i 61 (d af [11,61,62,63]) (d bm [11,61,64]))))))
def l1:=(s (p r9) (s (i 34 .skip (x 0)) (s (b 1 (s (d BX [34,35]) (s (d B2 [8,36,37,38,39,40,41,42]) (s (s (d s8 [43,44,45,46]) (i 47 (s (d CO [1,4,6,7,9,32,33,47]) .ret) .skip)) (s (d w6 [47]) (b 2 (w l2))))))) (d cp [9,10,50,65]))))
def c:=(s (d r0 [0,2,3]) (s (s (d r1 [12,13]) (i 14 (s (d r2 [1,14]) .ret) .skip)) (s (d r3 [14,15,16,17,18,19]) (s (s (d r4 [20]) (i 21 (s (d r5 [1,4,5,21,22]) .ret) .skip)) (s (d r6 [5,21,23,24,25,26]) (s (d r7 [27,28,29]) (s (s (d r8 [30,31]) (b 0 (w l1))) (s (d ea [1,4,6,7,32,33,34,66]) .ret))))))))
end L8
def L8:AFn:=⟨1,L8.c,[.tmp 2,.tmp 3],false⟩
structure o0 (L:Lib):Prop extends l7 L where
 MT:L 349=some F.MT
 MN:L 350=some F.MN
 JU:L 351=some F.JU
 MO:L 352=some F.MO
 MC:L 353=some F.MC
 ME:L 354=some F.ME
 ML:L 355=some F.ML
 MD:L 356=some F.MD
 L9:L 357=some F.L9
 L8:L 358=some F.L8
end Go.b7.F

namespace Go.b7.F
open C
namespace LK
def r0:=[o 2 (.box 2 0),o 4 (.a8 (.c (.bool false)))]
def r1:=[o 12 (.ld true 5 2),o 13 (.call 348 [12]),m 11 13,o 14 (.ext 11 0),o 15 (.ext 11 1),o 5 (.alloc 5 [z,z,z,z,z,z,z,z,z,.nil,.nil,z]),
 n (.st 12 5 14),m 6 15]
def r2:=[m 16 6,o 17 (.un .not 16)]
def r3:=[o 4 (.a8 (.c (.bool false)))]
def r4:=[o 19 (.ld true 12 5),o 20 (.call 358 [19]),m 18 20,o 21 (.ext 18 0),o 22 (.ext 18 1),m 7 21,m 8 22]
def r5:=[m 23 1,o 24 (.a5 5 0),o 25 (.ld true 4 24),o 26 (.call 13 [25]),o 27 (.bin .add 26 (k 1)),o 28 (.call 34 [23,27]),m 1 28]
def r6:=[o 30 (.ld true 12 5),m 31 1,o 32 (.call 357 [30,31]),m 29 32,o 33 (.ext 29 0),o 34 (.ext 29 1),m 9 33,m 10 34]
def r7:=[m 35 8,o 36 (.bin .neq 35 (k 0))]
def r8:=[o 37 (.call 318 []),m 38 37,g 39 38 true (.a8 8),g 40 38 true (.bin .eql 39 (k 18)),g 41 38 true (.a8 40),g 42 41 true (.a8 10),
 g 43 41 true (.bin .eql 42 (k 0)),g 44 38 true (.pick 41 43 (.c (.bool false))),g 45 38 true (.a8 44),g 46 45 true (.a8 9),g 47 45 true (.un .not 46),
 g 48 38 true (.pick 45 47 (.c (.bool false))),g 49 38 true (.a8 48),g 50 49 false (.a8 8),g 51 49 false (.a8 10),g 52 49 false (.bin .eql 50 51),
 g 53 38 true (.pick 49 (.c (.bool true)) 52),o 54 (.pick 38 53 (.c (.bool false))),m 4 54]
def r9:=[o 55 (.call 318 []),m 56 55,g 57 56 true (.a8 10),g 58 56 true (.bin .eql 57 (k 0)),o 59 (.pick 56 58 (.c (.bool false))),m 60 59,g 61 60 true (.a8 9),
 g 62 60 true (.a8 1),g 63 60 true (.a8 7),g 64 60 true (.bin .leq 62 63),g 65 60 true (.beq false 61 64),o 66 (.pick 60 65 (.c (.bool false))),m 4 66]
def c:=(s (d r0 [0,4]) (s (d r1 [2,11,12,13,14,15]) (s (s (d r2 [6,16]) (i 17 (s (d r3 [1,5,17]) .ret) .skip)) (s (d r4 [17,18,19,20,21,22]) (s (d r5 [23,24,25,26,27,28]) (s (d r6 [5,29,30,31,32,33,34]) (s (s (d r7 [35]) (i 36 (s (d r8 [1,7,8,9,10,36,37,38,39,40,41,42,43,44,45,46,47,48,49,50,51,52,53,54]) .ret) .skip)) (s (d r9 [1,7,8,9,10,36,55,56,57,58,59,60,61,62,63,64,65,66]) .ret))))))))
end LK
def LK:AFn:=⟨2,LK.c,[.tmp 4],false⟩
structure ja (L:Lib):Prop extends dn L,o0 L,y7 L where
 LK:L 359=some F.LK
end Go.b7.F
