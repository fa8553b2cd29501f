/-
  Functions of the program, as the abstract machine reads them (group RefG). Written by a program (gen.py) off the model's own reading of the translation; the seat's check ties them to it.
-/
import Derived.Test.YtfnglkabkfmjcaaGreatB1
import Derived.Test.YtfnglkabkfmjcaaGreatB3
set_option linter.unusedSimpArgs false
set_option linter.unusedVariables false
set_option linter.unnecessarySimpa false
namespace Go.e8.F
open C
namespace HY
def r0:=[o 2 (.b9 (.c .nil))]
def r1:=[m 4 0,o 5 (.len 4),m 3 5]
def r2:=[m 6 3,o 7 (.bin .gtr 6 (k 0)),m 8 7,g 9 8 true (.b9 0),g 10 8 true (.b9 3),g 11 8 true (.bin .sub 10 (k 1)),g 12 8 true (.a5 none 1 9 11),
 g 13 8 true (.ld false 1 12),g 14 8 true (.bin .eql 13 (.c (.int .u32 (0)))),o 15 (.pick 8 14 (.c (.bool false)))]
def r3:=[m 16 3,o 17 (.bin .sub 16 (k 1)),m 3 17]
def r4:=[m 18 0,m 19 3,o 20 (.jq 1 18 none (some 19)),o 21 (.app 101021 1 4 (.c .nil) 20),m 2 21]
def l1:=(s (s (d r2 [6,7,8,9,10,11,12,13,14]) (i 15 .skip (x 0))) (b 1 (d r3 [15,16,17])))
def c:=(s (d r0 [2]) (s (d r1 [4,5]) (s (b 0 (w l1)) (s (d r4 [0,3,15,18,19,20,21]) .ret))))
end HY
def HY:AFn:=⟨1,HY.c,[.tmp 2],false⟩
namespace VI
def r0:=[o 4 (.b9 (k 0))]
def r1:=[m 6 0,o 7 (.call 101 [6]),m 8 1,o 9 (.call 101 [8]),m 0 7,m 1 9]
def r2:=[m 10 0,o 11 (.len 10),m 12 1,o 13 (.len 12),o 14 (.bin .neq 11 13)]
def r3:=[m 15 0,o 16 (.len 15),m 17 1,o 18 (.len 17),o 19 (.bin .lss 16 18)]
def r4:=[o 4 (.b9 (k (-1)))]
def r5:=[o 4 (.b9 (k 1))]
def r6:=[m 20 0,o 21 (.len 20),o 22 (.bin .sub 21 (k 1)),m 5 22]
def r7:=[m 23 5,o 24 (.bin .geq 23 (k 0))]
def r9:=[m 27 0,m 28 5,o 29 (.a5 none 1 27 28),o 30 (.ld false 1 29),m 31 1,m 32 5,o 33 (.a5 none 1 31 32),o 34 (.ld false 1 33),o 35 (.bin .lss 30 34)]
def BM:=[o 4 (.b9 (k (-1)))]
def BZ:=[m 36 0,m 37 5,o 38 (.a5 none 1 36 37),o 39 (.ld false 1 38),m 40 1,m 41 5,o 42 (.a5 none 1 40 41),o 43 (.ld false 1 42),o 44 (.bin .gtr 39 43)]
def w4:=[o 4 (.b9 (k 1))]
def r8:=[m 25 5,o 26 (.bin .sub 25 (k 1)),m 5 26]
def CD:=[o 4 (.b9 (k 0))]
def l1:=(s (s (d r7 [23]) (i 24 .skip (x 0))) (s (b 1 (s (s (e r9 [24,27,28,29,30,31,32,33,34]) (i 35 (s (d BM [0,1,5,35]) .ret) .skip)) (s (e BZ [35,36,37,38,39,40,41,42,43]) (i 44 (s (d w4 [0,1,5,44]) .ret) .skip)))) (d r8 [25,26,44])))
def c:=(s (d r0 [4]) (s (d r1 [6,7,8,9]) (s (s (d r2 [10,11,12,13]) (i 14 (s (s (d r3 [0,1,14,15,16,17,18]) (i 19 (s (d r4 [19]) .ret) .skip)) (s (d r5 [19]) .ret)) .skip)) (s (s (d r6 [14,20,21,22]) (b 0 (w l1))) (s (d CD [0,1,5,24]) .ret)))))
end VI
def VI:AFn:=⟨2,VI.c,[.tmp 4],false⟩
namespace VG
def r0:=[o 4 (.b9 (.c .nil))]
def r1:=[o 5 (.ag 5 1)]
def r2:=[o 6 (.b9 (.c (.int .u64 (0))))]
def r3:=[o 7 (.b9 (k 0))]
def r4:=[m 8 7,m 9 0,o 10 (.len 9),o 11 (.bin .lss 8 10),m 12 11,g 13 12 false (.b9 7),g 14 12 false (.b9 1),g 15 12 false (.len 14),
 g 16 12 false (.bin .lss 13 15),o 17 (.pick 12 (.c (.bool true)) 16)]
def r6:=[m 20 7,m 21 0,o 22 (.len 21),o 23 (.bin .lss 20 22)]
def r7:=[m 24 6,m 25 0,m 26 7,o 27 (.a5 none 1 25 26),o 28 (.ld false 1 27),o 29 (.conv .u64 28),o 30 (.bin .add 24 29),m 6 30]
def r8:=[m 31 7,m 32 1,o 33 (.len 32),o 34 (.bin .lss 31 33)]
def r9:=[m 35 6,m 36 1,m 37 7,o 38 (.a5 none 1 36 37),o 39 (.ld false 1 38),o 40 (.conv .u64 39),o 41 (.bin .add 35 40),m 6 41]
def BM:=[m 42 5,m 43 6,o 44 (.conv .u32 43),o 45 (.g8 45 1 [44]),o 46 (.app 46 1 4 42 45),m 5 46]
def BZ:=[m 47 6,o 48 (.bin .shr 47 (.c (.int .u64 (32)))),m 6 48]
def r5:=[m 18 7,o 19 (.bin .add 18 (k 1)),m 7 19]
def w4:=[m 49 5,m 50 6,o 51 (.conv .u32 50),o 52 (.g8 52 1 [51]),o 53 (.app 53 1 4 49 52),o 54 (.call 101 [53]),m 4 54]
def l1:=(s (s (d r4 [8,9,10,11,12,13,14,15,16]) (i 17 .skip (x 0))) (s (b 1 (s (s (d r6 [17,20,21,22]) (i 23 (d r7 [23,24,25,26,27,28,29,30]) .skip)) (s (s (d r8 [23,31,32,33]) (i 34 (d r9 [34,35,36,37,38,39,40,41]) .skip)) (s (d BM [34,42,43,44,45,46]) (d BZ [47,48]))))) (d r5 [18,19])))
def c:=(s (d r0 [4]) (s (p r1) (s (p r2) (s (s (p r3) (b 0 (w l1))) (s (d w4 [0,1,5,6,7,17,49,50,51,52,53,54]) .ret)))))
end VG
def VG:AFn:=⟨2,VG.c,[.tmp 4],false⟩
namespace J5
def r0:=[o 4 (.b9 (.c .nil))]
def r1:=[m 10 0,m 11 1,o 12 (.call 102 [10,11]),o 13 (.bin .lss 12 (k 0))]
def r2:=[o 4 (.b9 (.c .nil))]
def r3:=[m 14 1,o 15 (.call 101 [14]),m 1 15]
def r4:=[m 16 0,o 17 (.j7 101 [16]),m 5 17]
def r5:=[o 6 (.b9 (.c (.int .u64 (0))))]
def r6:=[o 7 (.b9 (k 0))]
def r7:=[m 18 7,m 19 5,o 20 (.len 19),o 21 (.bin .lss 18 20)]
def r9:=[m 24 6,m 8 24]
def BM:=[m 25 7,m 26 1,o 27 (.len 26),o 28 (.bin .lss 25 27)]
def BZ:=[m 29 8,m 30 1,m 31 7,o 32 (.a5 none 1 30 31),o 33 (.ld false 1 32),o 34 (.conv .u64 33),o 35 (.bin .add 29 34),m 8 35]
def w4:=[m 36 5,m 37 7,o 38 (.a5 none 1 36 37),o 39 (.ld false 1 38),o 40 (.conv .u64 39),m 9 40]
def CD:=[o 6 (.b9 (.c (.int .u64 (0))))]
def ay:=[m 41 9,m 42 8,o 43 (.bin .lss 41 42)]
def ct:=[m 44 9,o 45 (.bin .add 44 (.c (.int .u64 (4294967296)))),m 9 45]
def du:=[o 6 (.b9 (.c (.int .u64 (1))))]
def EA:=[m 46 5,m 47 7,m 48 9,m 49 8,o 50 (.bin .sub 48 49),o 51 (.conv .u32 50),o 52 (.a5 none 1 46 47),n (.st 1 52 51)]
def r8:=[m 22 7,o 23 (.bin .add 22 (k 1)),m 7 23]
def eg:=[m 53 5,o 54 (.call 101 [53]),m 4 54]
def l1:=(s (s (d r7 [18,19,20]) (i 21 .skip (x 0))) (s (b 1 (s (d r9 [6,21,24]) (s (s (d BM [25,26,27]) (i 28 (d BZ [28,29,30,31,32,33,34,35]) .skip)) (s (d w4 [28,36,37,38,39,40]) (s (p CD) (s (s (d ay [41,42]) (i 43 (s (d ct [6,43,44,45]) (p du)) .skip)) (d EA [8,9,43,46,47,48,49,50,51,52]))))))) (d r8 [22,23])))
def c:=(s (d r0 [4]) (s (s (d r1 [10,11,12]) (i 13 (s (d r2 [0,1,13]) .ret) .skip)) (s (d r3 [13,14,15]) (s (d r4 [0,16,17]) (s (p r5) (s (s (p r6) (b 0 (w l1))) (s (d eg [1,5,6,7,21,53,54]) .ret)))))))
end J5
def J5:AFn:=⟨2,J5.c,[.tmp 4],false⟩
namespace VK
def r0:=[o 4 (.b9 (.c .nil))]
def r1:=[m 9 0,o 10 (.len 9),m 11 1,o 12 (.len 11),o 13 (.bin .add 10 12),o 14 (.bin .add 13 (k 1)),o 15 (.mk 15 1 4 [(.int .u32 (0))] 14 14),m 5 15]
def r2:=[o 6 (.b9 (k 0))]
def r3:=[m 16 6,m 17 0,o 18 (.len 17),o 19 (.bin .lss 16 18)]
def r5:=[o 7 (.b9 (.c (.int .u64 (0))))]
def r6:=[o 8 (.b9 (k 0))]
def r7:=[m 22 8,m 23 1,o 24 (.len 23),o 25 (.bin .lss 22 24)]
def r9:=[m 28 7,m 29 0,m 30 6,o 31 (.a5 none 1 29 30),o 32 (.ld false 1 31),o 33 (.conv .u64 32),m 34 1,m 35 8,o 36 (.a5 none 1 34 35),
 o 37 (.ld false 1 36),o 38 (.conv .u64 37),o 39 (.bin .mul 33 38),m 40 5,m 41 6,m 42 8,o 43 (.bin .add 41 42),o 44 (.a5 none 1 40 43),
 o 45 (.ld false 1 44),o 46 (.conv .u64 45),o 47 (.bin .add 39 46),o 48 (.bin .add 28 47),m 7 48]
def BM:=[m 49 5,m 50 6,m 51 8,o 52 (.bin .add 50 51),m 53 7,o 54 (.conv .u32 53),o 55 (.a5 none 1 49 52),n (.st 1 55 54)]
def BZ:=[m 56 7,o 57 (.bin .shr 56 (.c (.int .u64 (32)))),m 7 57]
def r8:=[m 26 8,o 27 (.bin .add 26 (k 1)),m 8 27]
def w4:=[m 58 5,m 59 6,m 60 1,o 61 (.len 60),o 62 (.bin .add 59 61),m 63 7,o 64 (.conv .u32 63),o 65 (.a5 none 1 58 62),n (.st 1 65 64)]
def r4:=[m 20 6,o 21 (.bin .add 20 (k 1)),m 6 21]
def CD:=[m 66 5,o 67 (.call 101 [66]),m 4 67]
def l2:=(s (s (d r7 [22,23,24]) (i 25 .skip (x 2))) (s (b 3 (s (e r9 [25,28,29,30,31,32,33,34,35,36,37,38,39,40,41,42,43,44,45,46,47,48]) (s (d BM [49,50,51,52,53,54,55]) (d BZ [56,57])))) (d r8 [26,27])))
def l1:=(s (s (d r3 [16,17,18]) (i 19 .skip (x 0))) (s (b 1 (s (d r5 [19]) (s (s (p r6) (b 2 (w l2))) (d w4 [7,8,25,58,59,60,61,62,63,64,65])))) (d r4 [20,21])))
def c:=(s (d r0 [4]) (s (d r1 [9,10,11,12,13,14,15]) (s (s (p r2) (b 0 (w l1))) (s (d CD [0,1,5,6,19,66,67]) .ret))))
end VK
def VK:AFn:=⟨2,VK.c,[.tmp 4],false⟩
namespace VH
def r0:=[o 2 (.b9 (k 0))]
def r1:=[m 5 0,o 6 (.call 101 [5]),m 0 6]
def r2:=[m 7 0,o 8 (.len 7),o 9 (.bin .eql 8 (k 0))]
def r3:=[o 2 (.b9 (k 0))]
def r4:=[m 10 0,o 11 (.len 10),o 12 (.bin .sub 11 (k 1)),o 13 (.bin .mul (k 32) 12),m 3 13]
def r5:=[m 14 0,m 15 0,o 16 (.len 15),o 17 (.bin .sub 16 (k 1)),o 18 (.a5 none 1 14 17),o 19 (.ld false 1 18),m 4 19]
def r6:=[m 20 4,o 21 (.bin .gtr 20 (.c (.int .u32 (0))))]
def r8:=[m 24 3,o 25 (.bin .add 24 (k 1)),m 3 25]
def r7:=[m 22 4,o 23 (.bin .shr 22 (.c (.int .u64 (1)))),m 4 23]
def r9:=[m 26 3,m 2 26]
def l1:=(s (s (d r6 [20]) (i 21 .skip (x 0))) (s (b 1 (d r8 [21,24,25])) (d r7 [22,23])))
def c:=(s (d r0 [2]) (s (d r1 [5,6]) (s (s (d r2 [7,8]) (i 9 (s (d r3 [0,9]) .ret) .skip)) (s (d r4 [9,10,11,12,13]) (s (s (d r5 [0,14,15,16,17,18,19]) (b 0 (w l1))) (s (d r9 [3,4,21,26]) .ret))))))
end VH
def VH:AFn:=⟨1,VH.c,[.tmp 2],false⟩
namespace JO
def r0:=[o 4 (.b9 (.c .nil))]
def r1:=[m 11 0,o 12 (.call 101 [11]),m 0 12]
def r2:=[m 13 1,o 14 (.bin .gtr 13 (k 65536)),m 15 14,g 16 15 false (.b9 0),g 17 15 false (.len 16),g 18 15 false (.bin .eql 17 (k 0)),
 o 19 (.pick 15 (.c (.bool true)) 18)]
def r3:=[o 4 (.b9 (.c .nil))]
def r4:=[m 20 1,o 21 (.bin .lss 20 (k 0))]
def r5:=[m 22 1,m 23 0,o 24 (.len 23),o 25 (.bin .mul (k (-32)) 24),o 26 (.bin .lss 22 25)]
def r6:=[o 4 (.b9 (.c .nil))]
def r7:=[m 27 1,o 28 (.un .neg 27),m 1 28]
def r8:=[o 5 (.ag 107005 1)]
def r9:=[m 29 1,o 30 (.bin .quo 29 (k 32)),m 6 30]
def BM:=[m 31 6,m 32 0,o 33 (.len 32),o 34 (.bin .lss 31 33)]
def w4:=[m 37 0,m 38 6,o 39 (.a5 none 1 37 38),o 40 (.ld false 1 39),o 41 (.conv .u64 40),m 7 41]
def CD:=[m 42 6,o 43 (.bin .add 42 (k 1)),m 44 0,o 45 (.len 44),o 46 (.bin .lss 43 45)]
def ay:=[m 47 7,m 48 0,m 49 6,o 50 (.bin .add 49 (k 1)),o 51 (.a5 none 1 48 50),o 52 (.ld false 1 51),o 53 (.conv .u64 52),
 o 54 (.bin .shl 53 (.c (.int .u64 (32)))),o 55 (.bin .or 47 54),m 7 55]
def ct:=[m 56 5,m 57 7,m 58 1,o 59 (.bin .rem 58 (k 32)),o 60 (.conv .u64 59),o 61 (.bin .shr 57 60),o 62 (.conv .u32 61),o 63 (.g8 107063 1 [62]),
 o 64 (.app 107064 1 4 56 63),m 5 64]
def BZ:=[m 35 6,o 36 (.bin .add 35 (k 1)),m 6 36]
def du:=[m 65 5,o 66 (.call 101 [65]),m 4 66]
def EA:=[m 67 1,o 68 (.bin .quo 67 (k 32)),o 69 (.mk 107069 1 4 [(.int .u32 (0))] 68 68),m 8 69]
def eg:=[o 9 (.b9 (.c (.int .u64 (0))))]
def fw:=[o 10 (.b9 (k 0))]
def iq:=[m 70 10,m 71 0,o 72 (.len 71),o 73 (.bin .lss 70 72)]
def nf:=[m 76 9,m 77 0,m 78 10,o 79 (.a5 none 1 77 78),o 80 (.ld false 1 79),o 81 (.conv .u64 80),m 82 1,o 83 (.bin .rem 82 (k 32)),o 84 (.conv .u64 83),
 o 85 (.bin .shl 81 84),o 86 (.bin .or 76 85),m 9 86]
def oh:=[m 87 8,m 88 9,o 89 (.conv .u32 88),o 90 (.g8 107090 1 [89]),o 91 (.app 107091 1 4 87 90),m 8 91]
def JL:=[m 92 9,o 93 (.bin .shr 92 (.c (.int .u64 (32)))),m 9 93]
def lu:=[m 74 10,o 75 (.bin .add 74 (k 1)),m 10 75]
def NY:=[m 94 8,m 95 9,o 96 (.conv .u32 95),o 97 (.g8 107097 1 [96]),o 98 (.app 107098 1 4 94 97),o 99 (.j7 101 [98]),m 4 99]
def l1:=(s (s (d BM [31,32,33]) (i 34 .skip (x 0))) (s (b 1 (s (d w4 [34,37,38,39,40,41]) (s (s (d CD [42,43,44,45]) (i 46 (d ay [46,47,48,49,50,51,52,53,54,55]) .skip)) (d ct [7,46,56,57,58,59,60,61,62,63,64])))) (d BZ [35,36])))
def l2:=(s (s (d iq [70,71,72]) (i 73 .skip (x 2))) (s (b 3 (s (d nf [73,76,77,78,79,80,81,82,83,84,85,86]) (s (d oh [87,88,89,90,91]) (d JL [92,93])))) (d lu [74,75])))
def c:=(s (d r0 [4]) (s (d r1 [11,12]) (s (s (d r2 [13,14,15,16,17,18]) (i 19 (s (d r3 [0,1,19]) .ret) .skip)) (s (s (d r4 [19,20]) (i 21 (s (s (d r5 [21,22,23,24,25]) (i 26 (s (d r6 [0,1,26]) .ret) .skip)) (s (d r7 [26,27,28]) (s (p r8) (s (s (d r9 [29,30]) (b 0 (w l1))) (s (d du [0,1,5,6,34,65,66]) .ret))))) .skip)) (s (d EA [21,67,68,69]) (s (p eg) (s (s (p fw) (b 2 (w l2))) (s (d NY [0,1,8,9,10,73,94,95,96,97,98,99]) .ret))))))))
end JO
def JO:AFn:=⟨2,JO.c,[.tmp 4],false⟩
namespace VM
def r0:=[o 4 (.b9 (.c .nil)),o 5 (.b9 (.c (.int .u32 (0))))]
def r1:=[m 9 0,o 10 (.len 9),o 11 (.mk 11 1 4 [(.int .u32 (0))] 10 10),m 6 11]
def r2:=[o 7 (.b9 (.c (.int .u64 (0))))]
def r3:=[m 12 0,o 13 (.len 12),o 14 (.bin .sub 13 (k 1)),m 8 14]
def r4:=[m 15 8,o 16 (.bin .geq 15 (k 0))]
def r6:=[m 19 7,o 20 (.bin .shl 19 (.c (.int .u64 (32)))),m 21 0,m 22 8,o 23 (.a5 none 1 21 22),o 24 (.ld false 1 23),o 25 (.conv .u64 24),
 o 26 (.bin .or 20 25),m 7 26]
def r7:=[m 27 6,m 28 8,m 29 7,m 30 1,o 31 (.conv .u64 30),o 32 (.bin .quo 29 31),o 33 (.conv .u32 32),o 34 (.a5 none 1 27 28),n (.st 1 34 33)]
def r8:=[m 35 7,m 36 1,o 37 (.conv .u64 36),o 38 (.bin .rem 35 37),m 7 38]
def r5:=[m 17 8,o 18 (.bin .sub 17 (k 1)),m 8 18]
def r9:=[m 39 6,o 40 (.call 101 [39]),m 41 7,o 42 (.conv .u32 41),m 4 40,m 5 42]
def l1:=(s (s (d r4 [15]) (i 16 .skip (x 0))) (s (b 1 (s (d r6 [16,19,20,21,22,23,24,25,26]) (s (d r7 [27,28,29,30,31,32,33,34]) (d r8 [35,36,37,38])))) (d r5 [17,18])))
def c:=(s (d r0 [4,5]) (s (d r1 [9,10,11]) (s (p r2) (s (s (d r3 [12,13,14]) (b 0 (w l1))) (s (d r9 [0,1,6,7,8,16,39,40,41,42]) .ret)))))
end VM
def VM:AFn:=⟨2,VM.c,[.tmp 4,.tmp 5],false⟩
namespace DT
def r0:=[o 4 (.b9 (.c .nil)),o 5 (.b9 (.c .nil)),o 6 (.b9 (k 0))]
def r1:=[m 27 0,o 28 (.call 101 [27]),m 29 1,o 30 (.call 101 [29]),m 0 28,m 1 30]
def r2:=[m 31 1,o 32 (.len 31),o 33 (.bin .eql 32 (k 0))]
def r3:=[o 4 (.b9 (.c .nil)),o 5 (.b9 (.c .nil)),o 6 (.b9 (k 3))]
def r4:=[m 34 1,o 35 (.len 34),o 36 (.bin .eql 35 (k 1))]
def r5:=[m 38 0,m 39 1,o 40 (.a5 none 1 39 (k 0)),o 41 (.ld false 1 40),o 42 (.call 108 [38,41]),m 37 42,o 43 (.ext 37 0),o 44 (.ext 37 1),m 7 43,m 8 44]
def r6:=[m 45 7,m 46 8,o 47 (.g8 47 1 [46]),o 48 (.call 101 [47]),m 4 45,m 5 48,o 6 (.b9 (k 0))]
def r7:=[m 49 0,m 50 1,o 51 (.call 102 [49,50]),o 52 (.bin .lss 51 (k 0))]
def r8:=[m 53 0,o 4 (.b9 (.c .nil)),m 5 53,o 6 (.b9 (k 0))]
def r9:=[m 54 1,m 55 1,o 56 (.len 55),o 57 (.bin .sub 56 (k 1)),o 58 (.jq 1 54 (some 57) none),o 59 (.call 106 [58]),o 60 (.bin .sub (k 32) 59),m 9 60]
def BM:=[m 61 0,m 62 9,o 63 (.j7 107 [61,62]),m 64 1,m 65 9,o 66 (.call 107 [64,65]),m 10 63,m 11 66]
def BZ:=[m 67 10,o 68 (.g8 68 1 [(.c (.int .u32 (0)))]),o 69 (.app 69 1 4 67 68),m 10 69]
def w4:=[m 70 10,o 71 (.len 70),m 72 0,o 73 (.len 72),o 74 (.bin .add 73 (k 1)),o 75 (.bin .lss 71 74)]
def CD:=[m 76 10,o 77 (.g8 77 1 [(.c (.int .u32 (0)))]),o 78 (.app 78 1 4 76 77),m 10 78]
def ay:=[m 79 11,o 80 (.len 79),m 12 80]
def ct:=[m 81 10,o 82 (.len 81),m 83 12,o 84 (.bin .sub 82 83),o 85 (.mk 85 1 4 [(.int .u32 (0))] 84 84),m 13 85]
def du:=[m 86 10,o 87 (.len 86),m 88 12,o 89 (.bin .sub 87 88),o 90 (.bin .sub 89 (k 1)),m 14 90]
def EA:=[m 91 14,o 92 (.bin .geq 91 (k 0))]
def fw:=[m 95 10,m 96 14,m 97 12,o 98 (.bin .add 96 97),o 99 (.a5 none 1 95 98),o 100 (.ld false 1 99),o 101 (.conv .u64 100),
 o 102 (.bin .shl 101 (.c (.int .u64 (32)))),m 103 10,m 104 14,m 105 12,o 106 (.bin .add 104 105),o 107 (.bin .sub 106 (k 1)),
 o 108 (.a5 none 1 103 107),o 109 (.ld false 1 108),o 110 (.conv .u64 109),o 111 (.bin .or 102 110),m 15 111]
def iq:=[m 112 15,m 113 11,m 114 12,o 115 (.bin .sub 114 (k 1)),o 116 (.a5 none 1 113 115),o 117 (.ld false 1 116),o 118 (.conv .u64 117),
 o 119 (.bin .quo 112 118),m 16 119]
def lu:=[m 120 15,m 121 11,m 122 12,o 123 (.bin .sub 122 (k 1)),o 124 (.a5 none 1 121 123),o 125 (.ld false 1 124),o 126 (.conv .u64 125),
 o 127 (.bin .rem 120 126),m 17 127]
def nf:=[m 128 16,o 129 (.bin .geq 128 (.c (.int .u64 (4294967296)))),m 130 129,g 131 130 false (.b9 16),g 132 130 false (.b9 11),g 133 130 false (.b9 12),
 g 134 130 false (.bin .sub 133 (k 2)),g 135 130 false (.a5 none 1 132 134),g 136 130 false (.ld false 1 135),g 137 130 false (.conv .u64 136),
 g 138 130 false (.bin .mul 131 137),g 139 130 false (.b9 17),g 140 130 false (.bin .shl 139 (.c (.int .u64 (32)))),g 141 130 false (.b9 10),
 g 142 130 false (.b9 14),g 143 130 false (.b9 12),g 144 130 false (.bin .add 142 143),g 145 130 false (.bin .sub 144 (k 2)),
 g 146 130 false (.a5 none 1 141 145),g 147 130 false (.ld false 1 146),g 148 130 false (.conv .u64 147),g 149 130 false (.bin .or 140 148),
 g 150 130 false (.bin .gtr 138 149),o 151 (.pick 130 (.c (.bool true)) 150)]
def oh:=[m 152 16,o 153 (.bin .sub 152 (.c (.int .u64 (1)))),m 16 153]
def JL:=[m 154 17,m 155 11,m 156 12,o 157 (.bin .sub 156 (k 1)),o 158 (.a5 none 1 155 157),o 159 (.ld false 1 158),o 160 (.conv .u64 159),
 o 161 (.bin .add 154 160),m 17 161]
def NY:=[m 162 17,o 163 (.bin .geq 162 (.c (.int .u64 (4294967296))))]
def U1:=[o 18 (.b9 (.c (.int .u64 (0)))),o 19 (.b9 (.c (.int .u64 (0))))]
def U2:=[o 20 (.b9 (k 0))]
def YW:=[m 164 20,m 165 12,o 166 (.bin .lss 164 165)]
def Ar:=[m 169 19,m 170 16,m 171 11,m 172 20,o 173 (.a5 none 1 171 172),o 174 (.ld false 1 173),o 175 (.conv .u64 174),o 176 (.bin .mul 170 175),
 o 177 (.bin .add 169 176),m 19 177]
def Cb:=[m 178 19,o 179 (.bin .and 178 (.c (.int .u64 (4294967295)))),m 180 18,o 181 (.bin .add 179 180),m 21 181]
def uC:=[m 182 19,o 183 (.bin .shr 182 (.c (.int .u64 (32)))),m 19 183]
def uD:=[m 184 10,m 185 20,m 186 14,o 187 (.bin .add 185 186),o 188 (.a5 none 1 184 187),o 189 (.ld false 1 188),o 190 (.conv .u64 189),m 22 190]
def uE:=[o 18 (.b9 (.c (.int .u64 (0))))]
def uF:=[m 191 22,m 192 21,o 193 (.bin .lss 191 192)]
def uG:=[m 194 22,o 195 (.bin .add 194 (.c (.int .u64 (4294967296)))),m 22 195]
def uH:=[o 18 (.b9 (.c (.int .u64 (1))))]
def uI:=[m 196 10,m 197 20,m 198 14,o 199 (.bin .add 197 198),m 200 22,m 201 21,o 202 (.bin .sub 200 201),o 203 (.conv .u32 202),o 204 (.a5 none 1 196 199),
 n (.st 1 204 203)]
def YX:=[m 167 20,o 168 (.bin .add 167 (k 1)),m 20 168]
def Kj:=[m 205 19,m 206 18,o 207 (.bin .add 205 206),m 23 207]
def r40:=[m 208 10,m 209 14,m 210 12,o 211 (.bin .add 209 210),o 212 (.a5 none 1 208 211),o 213 (.ld false 1 212),o 214 (.conv .u64 213),m 24 214]
def r41:=[o 18 (.b9 (.c (.int .u64 (0))))]
def r42:=[m 215 24,m 216 23,o 217 (.bin .lss 215 216)]
def r43:=[m 218 24,o 219 (.bin .add 218 (.c (.int .u64 (4294967296)))),m 24 219]
def r44:=[o 18 (.b9 (.c (.int .u64 (1))))]
def r45:=[m 220 10,m 221 14,m 222 12,o 223 (.bin .add 221 222),m 224 24,m 225 23,o 226 (.bin .sub 224 225),o 227 (.conv .u32 226),o 228 (.a5 none 1 220 223),
 n (.st 1 228 227)]
def r46:=[m 229 18,o 230 (.bin .eql 229 (.c (.int .u64 (1))))]
def r47:=[m 231 16,o 232 (.bin .sub 231 (.c (.int .u64 (1)))),m 16 232]
def r48:=[o 25 (.b9 (.c (.int .u64 (0))))]
def r49:=[o 26 (.b9 (k 0))]
def r50:=[m 233 26,m 234 12,o 235 (.bin .lss 233 234)]
def r52:=[m 238 25,m 239 10,m 240 26,m 241 14,o 242 (.bin .add 240 241),o 243 (.a5 none 1 239 242),o 244 (.ld false 1 243),o 245 (.conv .u64 244),m 246 11,
 m 247 26,o 248 (.a5 none 1 246 247),o 249 (.ld false 1 248),o 250 (.conv .u64 249),o 251 (.bin .add 245 250),o 252 (.bin .add 238 251),m 25 252]
def r53:=[m 253 10,m 254 26,m 255 14,o 256 (.bin .add 254 255),m 257 25,o 258 (.conv .u32 257),o 259 (.a5 none 1 253 256),n (.st 1 259 258)]
def r54:=[m 260 25,o 261 (.bin .shr 260 (.c (.int .u64 (32)))),m 25 261]
def r51:=[m 236 26,o 237 (.bin .add 236 (k 1)),m 26 237]
def r55:=[m 262 10,m 263 14,m 264 12,o 265 (.bin .add 263 264),o 266 (.a5 none 1 262 265),o 267 (.ld false 1 266),m 268 25,o 269 (.conv .u32 268),
 o 270 (.bin .add 267 269),o 271 (.a5 none 1 262 265),n (.st 1 271 270)]
def r56:=[m 272 13,m 273 14,m 274 16,o 275 (.conv .u32 274),o 276 (.a5 none 1 272 273),n (.st 1 276 275)]
def eg:=[m 93 14,o 94 (.bin .sub 93 (k 1)),m 14 94]
def Pz:=[m 277 13,o 278 (.call 101 [277]),m 279 10,m 280 12,o 281 (.jq 1 279 none (some 280)),m 282 9,o 283 (.un .neg 282),o 284 (.call 107 [281,283]),m 4 278,
 m 5 284,o 6 (.b9 (k 0))]
def l1:=(s (s (d w4 [70,71,72,73,74]) (i 75 .skip (x 0))) (b 1 (d CD [75,76,77,78])))
def l3:=(s (s (e nf [128,129,130,131,132,133,134,135,136,137,138,139,140,141,142,143,144,145,146,147,148,149,150,163]) (i 151 .skip (x 4))) (b 5 (s (d oh [151,152,153]) (s (d JL [154,155,156,157,158,159,160,161]) (s (d NY [162]) (i 163 (x 4) .skip))))))
def l4:=(s (s (d YW [164,165]) (i 166 .skip (x 6))) (s (b 7 (s (d Ar [166,169,170,171,172,173,174,175,176,177]) (s (d Cb [18,178,179,180,181]) (s (d uC [182,183]) (s (d uD [184,185,186,187,188,189,190]) (s (p uE) (s (s (d uF [191,192]) (i 193 (s (d uG [18,193,194,195]) (p uH)) .skip)) (d uI [21,22,193,196,197,198,199,200,201,202,203,204])))))))) (d YX [167,168])))
def l5:=(s (s (d r50 [233,234]) (i 235 .skip (x 8))) (s (b 9 (s (e r52 [235,238,239,240,241,242,243,244,245,246,247,248,249,250,251,252]) (s (d r53 [253,254,255,256,257,258,259]) (d r54 [260,261])))) (d r51 [236,237])))
def l2:=(s (s (d EA [91]) (i 92 .skip (x 2))) (s (b 3 (s (e fw [92,95,96,97,98,99,100,101,102,103,104,105,106,107,108,109,110,111]) (s (d iq [112,113,114,115,116,117,118,119]) (s (d lu [15,120,121,122,123,124,125,126,127]) (s (b 4 (w l3)) (s (d U1 [17,151,163]) (s (s (p U2) (b 6 (w l4))) (s (d Kj [18,19,20,166,205,206,207]) (s (d r40 [208,209,210,211,212,213,214]) (s (p r41) (s (s (d r42 [215,216]) (i 217 (s (d r43 [18,217,218,219]) (p r44)) .skip)) (s (d r45 [23,24,217,220,221,222,223,224,225,226,227,228]) (s (s (d r46 [18,229]) (i 230 (s (d r47 [230,231,232]) (s (p r48) (s (s (p r49) (b 8 (w l5))) (d r55 [25,26,235,262,263,264,265,266,267,268,269,270,271])))) .skip)) (d r56 [16,230,272,273,274,275,276])))))))))))))) (d eg [93,94])))
def c:=(s (d r0 [4,5,6]) (s (d r1 [27,28,29,30]) (s (s (d r2 [31,32]) (i 33 (s (d r3 [0,1,33]) .ret) .skip)) (s (s (d r4 [33,34,35]) (i 36 (s (d r5 [0,1,36,37,38,39,40,41,42,43,44]) (s (d r6 [7,8,45,46,47,48]) .ret)) .skip)) (s (s (d r7 [36,49,50,51]) (i 52 (s (d r8 [0,1,52,53]) .ret) .skip)) (s (d r9 [52,54,55,56,57,58,59,60]) (s (d BM [1,61,62,63,64,65,66]) (s (d BZ [67,68,69]) (s (b 0 (w l1)) (s (d ay [0,75,79,80]) (s (d ct [81,82,83,84,85]) (s (s (d du [86,87,88,89,90]) (b 2 (w l2))) (s (e Pz [9,10,11,12,13,14,92,277,278,279,280,281,282,283,284]) .ret)))))))))))))
end DT
def DT:AFn:=⟨2,DT.c,[.tmp 4,.tmp 5,.tmp 6],false⟩
namespace VJ
def r0:=[o 4 (.b9 (.c .nil))]
def r1:=[m 8 0,o 9 (.call 101 [8]),m 10 1,o 11 (.call 101 [10]),m 0 9,m 1 11]
def r2:=[m 12 1,o 13 (.len 12),o 14 (.bin .gtr 13 (k 0))]
def r3:=[m 16 0,m 17 1,o 18 (.call 109 [16,17]),m 15 18,o 19 (.ext 15 0),o 20 (.ext 15 1),o 21 (.ext 15 2),m 5 19,m 6 20,m 7 21]
def r4:=[m 22 1,m 23 6,m 0 22,m 1 23]
def r5:=[m 24 0,m 4 24]
def l1:=(s (s (d r2 [12,13]) (i 14 .skip (x 0))) (b 1 (s (d r3 [0,5,7,14,15,16,17,18,19,20,21]) (d r4 [6,22,23]))))
def c:=(s (d r0 [4]) (s (d r1 [8,9,10,11]) (s (b 0 (w l1)) (s (d r5 [0,1,14,24]) .ret))))
end VJ
def VJ:AFn:=⟨2,VJ.c,[.tmp 4],false⟩
namespace VX
def r0:=[o 1 (.box 1 0),o 2 (.alloc 2 [(.bool false),.nil])]
def r1:=[o 4 (.a7 1 1),o 5 (.ld false 1 4),o 6 (.call 101 [5]),m 3 6]
def r2:=[o 7 (.a7 1 0),o 8 (.ld false 1 7),m 9 8,g 10 9 true (.b9 3),g 11 9 true (.len 10),g 12 9 true (.bin .gtr 11 (k 0)),
 o 13 (.pick 9 12 (.c (.bool false))),m 14 3,o 15 (.build [(.bool false),.nil] [(0,1,13),(1,1,14)]),n (.st 2 2 15)]
def c:=(s (d r0 [0]) (s (d r1 [4,5,6]) (s (d r2 [1,3,7,8,9,10,11,12,13,14,15]) .ret)))
end VX
def VX:AFn:=⟨1,VX.c,[.cell 2 true 2],false⟩
namespace VU
def r0:=[o 2 (.alloc 2 [(.bool false),.nil])]
def r1:=[m 4 0,o 5 (.bin .lss 4 (k 0))]
def r2:=[m 6 0,o 7 (.bin .add 6 (k 1)),o 8 (.un .neg 7),o 9 (.conv .u64 8),o 10 (.bin .add 9 (.c (.int .u64 (1)))),m 3 10]
def r3:=[m 11 3,o 12 (.conv .u32 11),m 13 3,o 14 (.bin .shr 13 (.c (.int .u64 (32)))),o 15 (.conv .u32 14),o 16 (.g8 16 1 [12,15]),
 o 17 (.build [(.bool false),.nil] [(0,1,(.c (.bool true))),(1,1,16)]),o 18 (.call 111 [17]),n (.st 2 2 18)]
def r4:=[m 19 0,o 20 (.conv .u32 19),m 21 0,o 22 (.conv .u64 21),o 23 (.bin .shr 22 (.c (.int .u64 (32)))),o 24 (.conv .u32 23),o 25 (.g8 25 1 [20,24]),
 o 26 (.build [(.bool false),.nil] [(1,1,25)]),o 27 (.call 111 [26]),n (.st 2 2 27)]
def c:=(s (p r0) (s (s (d r1 [4]) (i 5 (s (d r2 [0,5,6,7,8,9,10]) (s (d r3 [3,11,12,13,14,15,16,17,18]) .ret)) .skip)) (s (d r4 [0,5,19,20,21,22,23,24,25,26,27]) .ret)))
end VU
def VU:AFn:=⟨1,VU.c,[.cell 2 true 2],false⟩
namespace VV
def r0:=[o 1 (.box 1 0),o 2 (.b9 (k 0))]
def r1:=[o 3 (.ld true 2 1),o 4 (.call 111 [3]),n (.st 2 1 4)]
def r2:=[o 6 (.a7 1 1),o 7 (.ld false 1 6),o 8 (.len 7),o 9 (.bin .eql 8 (k 0)),m 5 9]
def r3:=[o 2 (.b9 (k 0))]
def r4:=[o 11 (.a7 1 0),o 12 (.ld false 1 11),m 10 12]
def r5:=[o 2 (.b9 (k (-1)))]
def r6:=[o 2 (.b9 (k 1))]
def c:=(s (d r0 [0,2]) (s (d r1 [3,4]) (s (b 0 (s (d r2 [6,7,8,9]) (i 5 (s (d r3 [1,5]) .ret) (s (d r4 [1,5,11,12]) (i 10 (s (d r5 [10]) .ret) .skip))))) (s (d r6 [10]) .ret))))
end VV
def VV:AFn:=⟨1,VV.c,[.tmp 2],false⟩
namespace VT
def r0:=[o 1 (.box 1 0),o 2 (.alloc 2 [(.bool false),.nil])]
def r1:=[o 3 (.ld true 2 1),o 4 (.call 111 [3]),n (.st 2 1 4)]
def r2:=[o 5 (.a7 1 0),o 6 (.ld false 1 5),o 7 (.un .not 6),m 8 7,g 9 8 true (.a7 1 1),g 10 8 true (.ld false 1 9),g 11 8 true (.len 10),
 g 12 8 true (.bin .gtr 11 (k 0)),o 13 (.pick 8 12 (.c (.bool false))),o 14 (.a7 1 0),n (.st 1 14 13)]
def r3:=[o 15 (.ld true 2 1),n (.st 2 2 15)]
def c:=(s (d r0 [0]) (s (d r1 [3,4]) (s (d r2 [5,6,7,8,9,10,11,12,13,14]) (s (d r3 [1,15]) .ret))))
end VT
def VT:AFn:=⟨1,VT.c,[.cell 2 true 2],false⟩
namespace VO
def r0:=[o 2 (.box 2 0),o 3 (.box 3 1),o 4 (.alloc 4 [(.bool false),.nil])]
def r1:=[o 5 (.ld true 2 2),o 6 (.call 111 [5]),o 7 (.ld true 2 3),o 8 (.call 111 [7]),n (.st 2 2 6),n (.st 2 3 8)]
def r2:=[o 9 (.a7 2 0),o 10 (.ld false 1 9),o 11 (.a7 3 0),o 12 (.ld false 1 11),o 13 (.beq false 10 12)]
def r3:=[o 14 (.a7 2 0),o 15 (.ld false 1 14),o 16 (.a7 2 1),o 17 (.ld false 1 16),o 18 (.a7 3 1),o 19 (.ld false 1 18),o 20 (.call 103 [17,19]),
 o 21 (.build [(.bool false),.nil] [(0,1,15),(1,1,20)]),o 22 (.call 111 [21]),n (.st 2 4 22)]
def r4:=[o 23 (.a7 2 1),o 24 (.ld false 1 23),o 25 (.a7 3 1),o 26 (.ld false 1 25),o 27 (.call 102 [24,26]),o 28 (.bin .geq 27 (k 0))]
def r5:=[o 29 (.a7 2 0),o 30 (.ld false 1 29),o 31 (.a7 2 1),o 32 (.ld false 1 31),o 33 (.a7 3 1),o 34 (.ld false 1 33),o 35 (.call 104 [32,34]),
 o 36 (.build [(.bool false),.nil] [(0,1,30),(1,1,35)]),o 37 (.call 111 [36]),n (.st 2 4 37)]
def r6:=[o 38 (.a7 3 0),o 39 (.ld false 1 38),o 40 (.a7 3 1),o 41 (.ld false 1 40),o 42 (.a7 2 1),o 43 (.ld false 1 42),o 44 (.call 104 [41,43]),
 o 45 (.build [(.bool false),.nil] [(0,1,39),(1,1,44)]),o 46 (.call 111 [45]),n (.st 2 4 46)]
def c:=(s (d r0 [0,1]) (s (e r1 [5,6,7,8]) (s (s (d r2 [9,10,11,12]) (i 13 (s (e r3 [2,3,13,14,15,16,17,18,19,20,21,22]) .ret) .skip)) (s (s (d r4 [13,23,24,25,26,27]) (i 28 (s (e r5 [2,3,28,29,30,31,32,33,34,35,36,37]) .ret) .skip)) (s (e r6 [2,3,28,38,39,40,41,42,43,44,45,46]) .ret)))))
end VO
def VO:AFn:=⟨2,VO.c,[.cell 4 true 2],false⟩
namespace VW
def r0:=[o 2 (.box 2 0),o 3 (.box 3 1),o 4 (.alloc 4 [(.bool false),.nil])]
def r1:=[o 5 (.ld true 2 2),o 6 (.ld true 2 3),o 7 (.call 114 [6]),o 8 (.call 115 [5,7]),n (.st 2 4 8)]
def c:=(s (d r0 [0,1]) (s (e r1 [2,3,5,6,7,8]) .ret))
end VW
def VW:AFn:=⟨2,VW.c,[.cell 4 true 2],false⟩
namespace VP
def r0:=[o 2 (.box 2 0),o 3 (.box 3 1),o 4 (.b9 (k 0))]
def r1:=[o 5 (.ld true 2 2),o 6 (.ld true 2 3),o 7 (.call 116 [5,6]),o 8 (.call 113 [7]),m 4 8]
def c:=(s (d r0 [0,1,4]) (s (d r1 [2,3,5,6,7,8]) .ret))
end VP
def VP:AFn:=⟨2,VP.c,[.tmp 4],false⟩
namespace VS
def r0:=[o 2 (.box 2 0),o 3 (.box 3 1),o 4 (.alloc 4 [(.bool false),.nil])]
def r1:=[o 5 (.a7 2 0),o 6 (.ld false 1 5),o 7 (.a7 3 0),o 8 (.ld false 1 7),o 9 (.beq true 6 8),o 10 (.a7 2 1),o 11 (.ld false 1 10),o 12 (.a7 3 1),
 o 13 (.ld false 1 12),o 14 (.call 105 [11,13]),o 15 (.build [(.bool false),.nil] [(0,1,9),(1,1,14)]),o 16 (.call 111 [15]),n (.st 2 4 16)]
def c:=(s (d r0 [0,1]) (s (e r1 [2,3,5,6,7,8,9,10,11,12,13,14,15,16]) .ret))
end VS
def VS:AFn:=⟨2,VS.c,[.cell 4 true 2],false⟩
namespace VQ
def r0:=[o 2 (.box 2 0),o 3 (.box 3 1),o 4 (.alloc 4 [(.bool false),.nil]),o 5 (.alloc 5 [(.bool false),.nil]),o 6 (.b9 (k 0))]
def r1:=[o 10 (.ld true 2 2),o 11 (.call 111 [10]),o 12 (.ld true 2 3),o 13 (.call 111 [12]),n (.st 2 2 11),n (.st 2 3 13)]
def r2:=[o 15 (.a7 2 1),o 16 (.ld false 1 15),o 17 (.a7 3 1),o 18 (.ld false 1 17),o 19 (.call 109 [16,18]),m 14 19,o 20 (.ext 14 0),o 21 (.ext 14 1),
 o 22 (.ext 14 2),m 7 20,m 8 21,m 9 22]
def r3:=[m 23 9,o 24 (.bin .neq 23 (k 0))]
def r4:=[o 25 (.build [(.bool false),.nil] []),o 26 (.build [(.bool false),.nil] []),m 27 9,n (.st 2 4 25),n (.st 2 5 26),m 6 27]
def r5:=[o 28 (.a7 2 0),o 29 (.ld false 1 28),m 30 29,g 31 30 true (.b9 8),g 32 30 true (.len 31),g 33 30 true (.bin .gtr 32 (k 0)),
 o 34 (.pick 30 33 (.c (.bool false)))]
def r6:=[m 35 7,o 36 (.g8 36 1 [(.c (.int .u32 (1)))]),o 37 (.call 103 [35,36]),o 38 (.a7 3 1),q 39 [36] (.ld false 1 38),m 40 8,
 o 41 (.call 104 [39,40]),m 7 37,m 8 41]
def r7:=[o 42 (.a7 2 0),o 43 (.ld false 1 42),o 44 (.a7 3 0),o 45 (.ld false 1 44),o 46 (.beq true 43 45),m 47 7,
 o 48 (.build [(.bool false),.nil] [(0,1,46),(1,1,47)]),o 49 (.call 111 [48]),m 50 8,o 51 (.build [(.bool false),.nil] [(1,1,50)]),n (.st 2 4 49),
 n (.st 2 5 51),o 6 (.b9 (k 0))]
def c:=(s (d r0 [0,1,6]) (s (e r1 [10,11,12,13]) (s (d r2 [14,15,16,17,18,19,20,21,22]) (s (s (d r3 [23]) (i 24 (s (d r4 [2,3,7,8,9,24,25,26,27]) .ret) .skip)) (s (s (d r5 [9,24,28,29,30,31,32,33]) (i 34 (e r6 [34,35,36,37,38,39,40,41]) .skip)) (s (d r7 [2,3,7,8,34,42,43,44,45,46,47,48,49,50,51]) .ret))))))
end VQ
def VQ:AFn:=⟨2,VQ.c,[.cell 4 true 2,.cell 5 true 2,.tmp 6],false⟩
namespace VR
def r0:=[o 2 (.box 2 0),o 3 (.box 3 1),o 4 (.alloc 4 [(.bool false),.nil])]
def r1:=[o 5 (.a7 2 1),o 6 (.ld false 1 5),o 7 (.a7 3 1),o 8 (.ld false 1 7),o 9 (.call 110 [6,8]),o 10 (.build [(.bool false),.nil] [(1,1,9)]),
 n (.st 2 4 10)]
def c:=(s (d r0 [0,1]) (s (d r1 [2,3,5,6,7,8,9,10]) .ret))
end VR
def VR:AFn:=⟨2,VR.c,[.cell 4 true 2],false⟩
namespace JP
def r0:=[o 2 (.box 2 0),o 3 (.box 3 1),o 4 (.alloc 4 [(.bool false),.nil,.nil])]
def r1:=[o 12 (.ld true 2 2),o 13 (.call 113 [12]),o 14 (.bin .eql 13 (k 0)),m 15 14,g 16 15 false (.ld true 2 3),g 17 15 false (.call 113 [16]),
 g 18 15 false (.bin .eql 17 (k 0)),o 19 (.pick 15 (.c (.bool true)) 18)]
def r2:=[o 20 (.g8 20 1 [(.c (.int .u32 (1)))]),o 21 (.build [(.bool false),.nil,.nil] [(2,1,20)]),n (.st 3 4 21)]
def r3:=[o 22 (.ld true 2 2),o 23 (.ld true 2 3),o 24 (.call 120 [22,23]),o 5 (.alloc 5 [(.bool false),.nil]),n (.st 2 5 24)]
def r4:=[o 26 (.ld true 2 2),o 27 (.ld true 2 5),o 28 (.call 119 [26,27]),m 25 28,o 29 (.ext 25 0),o 30 (.ext 25 1),o 31 (.ext 25 2),
 o 6 (.alloc 6 [(.bool false),.nil]),o 7 (.alloc 7 [(.bool false),.nil]),n (.st 2 6 29),n (.st 2 7 30),m 8 31]
def r5:=[o 33 (.ld true 2 3),o 34 (.ld true 2 5),o 35 (.call 119 [33,34]),m 32 35,o 36 (.ext 32 0),o 37 (.ext 32 1),o 38 (.ext 32 2),
 o 9 (.alloc 9 [(.bool false),.nil]),o 10 (.alloc 10 [(.bool false),.nil]),n (.st 2 9 36),n (.st 2 10 37),m 11 38]
def r6:=[o 39 (.a7 9 0),o 40 (.ld false 1 39)]
def r7:=[o 41 (.ld true 2 6),o 42 (.call 114 [41]),n (.st 2 6 42)]
def r8:=[o 43 (.ld true 2 6),o 44 (.a7 9 1),o 45 (.ld false 1 44),o 46 (.build [(.bool false),.nil,.nil] [(0,2,43),(2,1,45)]),n (.st 3 4 46)]
def c:=(s (d r0 [0,1]) (s (s (d r1 [12,13,14,15,16,17,18]) (i 19 (s (d r2 [2,3,19,20,21]) .ret) .skip)) (s (d r3 [19,22,23,24]) (s (d r4 [2,7,8,25,26,27,28,29,30,31]) (s (d r5 [3,5,10,11,32,33,34,35,36,37,38]) (s (s (d r6 [39]) (i 40 (d r7 [40,41,42]) .skip)) (s (d r8 [6,9,40,43,44,45,46]) .ret)))))))
end JP
def JP:AFn:=⟨2,JP.c,[.cell 4 true 3],false⟩
namespace OC
def r0:=[o 1 (.box 1 0),o 2 (.alloc 2 [(.bool false),.nil]),o 3 (.alloc 3 [(.bool false),.nil])]
def r1:=[o 5 (.a7 1 2),o 6 (.ld false 1 5),o 7 (.call 101 [6]),o 8 (.build [(.bool false),.nil] [(1,1,7)]),o 4 (.alloc 4 [(.bool false),.nil]),n (.st 2 4 8)]
def r2:=[o 9 (.a7 4 1),o 10 (.ld false 1 9),o 11 (.len 10),o 12 (.bin .eql 11 (k 0))]
def r3:=[o 13 (.build [(.bool false),.nil] []),o 14 (.g8 14 1 [(.c (.int .u32 (1)))]),o 15 (.build [(.bool false),.nil] [(1,1,14)]),n (.st 2 2 13),
 n (.st 2 3 15)]
def r4:=[o 16 (.a7 1 0),o 17 (.ld true 2 16),q 18 [2] (.ld true 2 4),n (.px 2 2 2 17),n (.st 2 3 18)]
def c:=(s (d r0 [0]) (s (d r1 [5,6,7,8]) (s (s (d r2 [9,10,11]) (i 12 (s (d r3 [1,4,12,13,14,15]) .ret) .skip)) (s (e r4 [1,4,12,16,17,18]) .ret))))
end OC
def OC:AFn:=⟨1,OC.c,[.cell 2 true 2,.cell 3 true 2],false⟩
namespace V8
def r0:=[o 1 (.box 1 0),o 2 (.alloc 2 [(.bool false),.nil,.nil])]
def r1:=[o 6 (.ld true 3 1),o 7 (.call 122 [6]),m 5 7,o 8 (.ext 5 0),o 9 (.ext 5 1),o 3 (.alloc 3 [(.bool false),.nil]),o 4 (.alloc 4 [(.bool false),.nil]),
 n (.st 2 3 8),n (.st 2 4 9)]
def r2:=[o 10 (.ld true 2 3),o 11 (.ld true 2 4),o 12 (.call 121 [10,11]),n (.st 3 2 12)]
def c:=(s (d r0 [0]) (s (d r1 [1,5,6,7,8,9]) (s (d r2 [3,4,10,11,12]) .ret)))
end V8
def V8:AFn:=⟨1,V8.c,[.cell 2 true 3],false⟩
namespace V5
def r0:=[o 2 (.alloc 2 [(.bool false),.nil,.nil])]
def r1:=[m 3 0,o 4 (.call 112 [3]),o 5 (.g8 5 1 [(.c (.int .u32 (1)))]),o 6 (.build [(.bool false),.nil,.nil] [(0,2,4),(2,1,5)]),n (.st 3 2 6)]
def c:=(s (p r0) (s (d r1 [0,3,4,5,6]) .ret))
end V5
def V5:AFn:=⟨1,V5.c,[.cell 2 true 3],false⟩
namespace V2
def r0:=[o 4 (.alloc 4 [(.bool false),.nil,.nil])]
def r1:=[m 5 0,o 6 (.call 112 [5]),m 7 1,o 8 (.call 112 [7]),o 9 (.call 121 [6,8]),n (.st 3 4 9)]
def c:=(s (p r0) (s (d r1 [0,1,5,6,7,8,9]) .ret))
end V2
def V2:AFn:=⟨2,V2.c,[.cell 4 true 3],false⟩
namespace VZ
def r0:=[o 2 (.box 2 0),o 3 (.box 3 1),o 4 (.alloc 4 [(.bool false),.nil,.nil])]
def r1:=[o 10 (.ld true 3 2),o 11 (.call 122 [10]),m 9 11,o 12 (.ext 9 0),o 13 (.ext 9 1),o 5 (.alloc 5 [(.bool false),.nil]),
 o 6 (.alloc 6 [(.bool false),.nil]),n (.st 2 5 12),n (.st 2 6 13)]
def r2:=[o 15 (.ld true 3 3),o 16 (.call 122 [15]),m 14 16,o 17 (.ext 14 0),o 18 (.ext 14 1),o 7 (.alloc 7 [(.bool false),.nil]),
 o 8 (.alloc 8 [(.bool false),.nil]),n (.st 2 7 17),n (.st 2 8 18)]
def r3:=[o 19 (.ld true 2 5),o 20 (.ld true 2 8),o 21 (.call 118 [19,20]),o 22 (.ld true 2 7),o 23 (.ld true 2 6),o 24 (.call 118 [22,23]),
 o 25 (.call 115 [21,24]),o 26 (.ld true 2 6),o 27 (.ld true 2 8),o 28 (.call 118 [26,27]),o 29 (.call 121 [25,28]),n (.st 3 4 29)]
def c:=(s (d r0 [0,1]) (s (d r1 [2,9,10,11,12,13]) (s (d r2 [3,14,15,16,17,18]) (s (e r3 [5,6,7,8,19,20,21,22,23,24,25,26,27,28,29]) .ret))))
end VZ
def VZ:AFn:=⟨2,VZ.c,[.cell 4 true 3],false⟩
namespace V0
def r0:=[o 2 (.box 2 0),o 3 (.box 3 1),o 4 (.b9 (k 0))]
def r1:=[o 10 (.ld true 3 2),o 11 (.call 122 [10]),m 9 11,o 12 (.ext 9 0),o 13 (.ext 9 1),o 5 (.alloc 5 [(.bool false),.nil]),
 o 6 (.alloc 6 [(.bool false),.nil]),n (.st 2 5 12),n (.st 2 6 13)]
def r2:=[o 15 (.ld true 3 3),o 16 (.call 122 [15]),m 14 16,o 17 (.ext 14 0),o 18 (.ext 14 1),o 7 (.alloc 7 [(.bool false),.nil]),
 o 8 (.alloc 8 [(.bool false),.nil]),n (.st 2 7 17),n (.st 2 8 18)]
def r3:=[o 19 (.ld true 2 5),o 20 (.ld true 2 8),o 21 (.call 118 [19,20]),o 22 (.ld true 2 7),o 23 (.ld true 2 6),o 24 (.call 118 [22,23]),
 o 25 (.call 117 [21,24]),m 4 25]
def c:=(s (d r0 [0,1,4]) (s (d r1 [2,9,10,11,12,13]) (s (d r2 [3,14,15,16,17,18]) (s (e r3 [5,6,7,8,19,20,21,22,23,24,25]) .ret))))
end V0
def V0:AFn:=⟨2,V0.c,[.tmp 4],false⟩
namespace V3
def r0:=[o 2 (.box 2 0),o 3 (.box 3 1),o 4 (.alloc 4 [(.bool false),.nil,.nil])]
def r1:=[o 10 (.ld true 3 2),o 11 (.call 122 [10]),m 9 11,o 12 (.ext 9 0),o 13 (.ext 9 1),o 5 (.alloc 5 [(.bool false),.nil]),
 o 6 (.alloc 6 [(.bool false),.nil]),n (.st 2 5 12),n (.st 2 6 13)]
def r2:=[o 15 (.ld true 3 3),o 16 (.call 122 [15]),m 14 16,o 17 (.ext 14 0),o 18 (.ext 14 1),o 7 (.alloc 7 [(.bool false),.nil]),
 o 8 (.alloc 8 [(.bool false),.nil]),n (.st 2 7 17),n (.st 2 8 18)]
def r3:=[o 19 (.ld true 2 5),o 20 (.ld true 2 7),o 21 (.call 118 [19,20]),o 22 (.ld true 2 6),o 23 (.ld true 2 8),o 24 (.call 118 [22,23]),
 o 25 (.call 121 [21,24]),n (.st 3 4 25)]
def c:=(s (d r0 [0,1]) (s (d r1 [2,9,10,11,12,13]) (s (d r2 [3,14,15,16,17,18]) (s (e r3 [5,6,7,8,19,20,21,22,23,24,25]) .ret))))
end V3
def V3:AFn:=⟨2,V3.c,[.cell 4 true 3],false⟩
structure c4 (L:Lib):Prop where
 HY:L 101=some F.HY
 VI:L 102=some F.VI
 VG:L 103=some F.VG
 J5:L 104=some F.J5
 VK:L 105=some F.VK
 VH:L 106=some F.VH
 JO:L 107=some F.JO
 VM:L 108=some F.VM
 DT:L 109=some F.DT
 VJ:L 110=some F.VJ
 VX:L 111=some F.VX
 VU:L 112=some F.VU
 VV:L 113=some F.VV
 VT:L 114=some F.VT
 VO:L 115=some F.VO
 VW:L 116=some F.VW
 VP:L 117=some F.VP
 VS:L 118=some F.VS
 VQ:L 119=some F.VQ
 VR:L 120=some F.VR
 JP:L 121=some F.JP
 OC:L 122=some F.OC
 V8:L 123=some F.V8
 V5:L 124=some F.V5
 V2:L 125=some F.V2
 VZ:L 126=some F.VZ
 V0:L 127=some F.V0
 V3:L 128=some F.V3
end Go.e8.F
namespace Go.e8.F
open C
namespace UE
def r0:=[o 1 (.box 1 0),o 2 (.b9 (.c (.bool false)))]
def r1:=[o 6 (.a7 1 0),o 7 (.ld false 1 6),o 8 (.len 7),m 3 8]
def r2:=[m 9 3,o 10 (.bin .gtr 9 (k 64)),m 11 10,g 12 11 false (.a7 1 1),g 13 11 false (.ld false 1 12),g 14 11 false (.len 13),g 15 11 false (.b9 3),
 g 16 11 false (.bin .neq 14 15),o 17 (.pick 11 (.c (.bool true)) 16),m 18 17,g 19 18 false (.a7 1 2),g 20 18 false (.ld false 1 19),
 g 21 18 false (.len 20),g 22 18 false (.b9 3),g 23 18 false (.bin .neq 21 22),o 24 (.pick 18 (.c (.bool true)) 23)]
def r3:=[o 2 (.b9 (.c (.bool false)))]
def r4:=[o 25 (.a7 1 0),o 26 (.ld false 1 25),o 27 (.len 26),o 28 (.b9 (k 0))]
def r5:=[o 29 (.bin .lss 28 27)]
def r6:=[o 30 (.a5 none 1 26 28),o 31 (.ld false 1 30),m 5 31]
def r7:=[m 32 5,o 33 (.len 32),m 34 3,o 35 (.bin .neq 33 34)]
def r8:=[o 2 (.b9 (.c (.bool false)))]
def r9:=[o 36 (.bin .add 28 (k 1)),m 28 36]
def BM:=[o 2 (.b9 (.c (.bool true)))]
def l1:=(s (p r5) (s (i 29 .skip (x 0)) (s (b 1 (s (d r6 [29,30,31]) (s (d r7 [5,32,33,34]) (i 35 (s (d r8 [3,26,27,28,35]) .ret) .skip)))) (d r9 [35,36]))))
def c:=(s (d r0 [0,2]) (s (d r1 [6,7,8]) (s (s (d r2 [9,10,11,12,13,14,15,16,17,18,19,20,21,22,23]) (i 24 (s (d r3 [1,3,24]) .ret) .skip)) (s (s (d r4 [1,24,25]) (b 0 (w l1))) (s (d BM [3,26,27,28,29]) .ret)))))
end UE
def UE:AFn:=⟨1,UE.c,[.tmp 2],false⟩
namespace WD
def r0:=[o 1 (.box 1 0),o 2 (.b9 (.c (.bool false)))]
def r1:=[o 5 (.a7 1 0),o 6 (.ld false 1 5),o 7 (.len 6),m 3 7]
def r2:=[m 8 3,o 9 (.bin .gtr 8 (k 64)),m 10 9,g 11 10 false (.a7 1 1),g 12 10 false (.ld false 1 11),g 13 10 false (.len 12),g 14 10 false (.b9 3),
 g 15 10 false (.bin .neq 13 14),o 16 (.pick 10 (.c (.bool true)) 15),m 17 16,g 18 17 false (.a7 1 2),g 19 17 false (.ld false 1 18),
 g 20 17 false (.len 19),g 21 17 false (.b9 3),g 22 17 false (.bin .neq 20 21),o 23 (.pick 17 (.c (.bool true)) 22)]
def r3:=[o 2 (.b9 (.c (.bool false)))]
def r4:=[o 4 (.b9 (k 0))]
def r5:=[m 24 4,m 25 3,o 26 (.bin .lss 24 25)]
def r7:=[o 29 (.a7 1 0),o 30 (.ld false 1 29),m 31 4,o 32 (.a5 none 1 30 31),o 33 (.ld false 1 32),o 34 (.len 33),m 35 3,o 36 (.bin .neq 34 35)]
def r8:=[o 2 (.b9 (.c (.bool false)))]
def r6:=[m 27 4,o 28 (.bin .add 27 (k 1)),m 4 28]
def r9:=[o 2 (.b9 (.c (.bool true)))]
def l1:=(s (s (d r5 [24,25]) (i 26 .skip (x 0))) (s (b 1 (s (d r7 [26,29,30,31,32,33,34,35]) (i 36 (s (d r8 [1,3,4,36]) .ret) .skip))) (d r6 [27,28,36])))
def c:=(s (d r0 [0,2]) (s (d r1 [5,6,7]) (s (s (d r2 [8,9,10,11,12,13,14,15,16,17,18,19,20,21,22]) (i 23 (s (d r3 [1,3,23]) .ret) .skip)) (s (s (d r4 [23]) (b 0 (w l1))) (s (d r9 [1,3,4,26]) .ret)))))
end WD
def WD:AFn:=⟨1,WD.c,[.tmp 2],false⟩
namespace YY
def r0:=[o 4 (.alloc 4 [(.bool false),.nil,.nil])]
def r1:=[o 7 (.call 124 [(k 0)]),o 5 (.alloc 5 [(.bool false),.nil,.nil]),n (.st 3 5 7)]
def r2:=[o 6 (.b9 (k 0))]
def r3:=[m 8 6,m 9 0,o 10 (.len 9),o 11 (.bin .lss 8 10)]
def r5:=[o 14 (.ld true 3 5),m 15 0,m 16 6,o 17 (.a5 none 3 15 16),o 18 (.ld true 3 17),m 19 1,m 20 6,o 21 (.a5 none 3 19 20),o 22 (.ld true 3 21),
 o 23 (.call 128 [18,22]),o 24 (.call 126 [14,23]),n (.st 3 5 24)]
def r4:=[m 12 6,o 13 (.bin .add 12 (k 1)),m 6 13]
def r6:=[o 25 (.ld true 3 5),n (.st 3 4 25)]
def l1:=(s (s (d r3 [8,9,10]) (i 11 .skip (x 0))) (s (b 1 (e r5 [11,14,15,16,17,18,19,20,21,22,23,24])) (d r4 [12,13])))
def c:=(s (p r0) (s (d r1 [7]) (s (s (p r2) (b 0 (w l1))) (s (d r6 [0,1,5,6,11,25]) .ret))))
end YY
def YY:AFn:=⟨2,YY.c,[.cell 4 true 3],false⟩
namespace YZ
def r0:=[o 4 (.b9 (.c .nil))]
def r1:=[o 5 (.ag 138005 3)]
def r2:=[o 6 (.b9 (k 0))]
def r3:=[m 7 6,m 8 0,o 9 (.len 8),o 10 (.bin .lss 7 9)]
def r5:=[m 13 5,m 14 0,m 15 6,o 16 (.a5 none 1 14 15),o 17 (.ld false 1 16),m 18 1,o 19 (.call 137 [17,18]),o 20 (.g8 138020 3 [19]),
 o 21 (.app 138021 3 56 13 20),m 5 21]
def r4:=[m 11 6,o 12 (.bin .add 11 (k 1)),m 6 12]
def r6:=[m 22 5,m 4 22]
def l1:=(s (s (d r3 [7,8,9]) (i 10 .skip (x 0))) (s (b 1 (d r5 [10,13,14,15,16,17,18,19,20,21])) (d r4 [11,12])))
def c:=(s (d r0 [4]) (s (p r1) (s (s (p r2) (b 0 (w l1))) (s (d r6 [0,1,5,6,10,22]) .ret))))
end YZ
def YZ:AFn:=⟨2,YZ.c,[.tmp 4],false⟩
structure fb (L:Lib):Prop extends b7 L,c4 L where
 UE:L 130=some F.UE
 WD:L 136=some F.WD
 YY:L 137=some F.YY
 YZ:L 138=some F.YZ
end Go.e8.F

namespace Go.e8.F
open C
namespace TC
def r0:=[o 2 (.b9 (.c (.bool false)))]
def r1:=[m 3 0,o 4 (.bin .geq 3 (k 1)),m 5 4,g 6 5 true (.b9 0),g 7 5 true (.bin .leq 6 (k 3)),o 8 (.pick 5 7 (.c (.bool false))),m 2 8]
def c:=(s (d r0 [2]) (s (d r1 [0,3,4,5,6,7,8]) .ret))
end TC
def TC:AFn:=⟨1,TC.c,[.tmp 2],false⟩
namespace TA
def r0:=[o 1 (.box 1 0),o 2 (.b9 (.c (.bool false)))]
def r1:=[o 3 (.a7 1 0),o 4 (.ld false 1 3),o 5 (.bin .lss 4 (k 4)),m 6 5,g 7 6 false (.a7 1 0),g 8 6 false (.ld false 1 7),g 9 6 false (.bin .gtr 8 (k 24)),
 o 10 (.pick 6 (.c (.bool true)) 9),m 11 10,g 12 11 false (.a7 1 1),g 13 11 false (.ld false 1 12),g 14 11 false (.bin .lss 13 (k 0)),
 o 15 (.pick 11 (.c (.bool true)) 14),m 16 15,g 17 16 false (.a7 1 1),g 18 16 false (.ld false 1 17),g 19 16 false (.a7 1 0),
 g 20 16 false (.ld false 1 19),g 21 16 false (.bin .geq 18 20),o 22 (.pick 16 (.c (.bool true)) 21)]
def r2:=[o 2 (.b9 (.c (.bool false)))]
def r3:=[o 23 (.a7 1 2),o 24 (.ld false 1 23),o 25 (.call 1 [24]),m 26 25,g 27 26 true (.a7 1 3),g 28 26 true (.ld false 1 27),
 g 29 26 true (.bin .eql 28 (k 1)),g 30 26 true (.b9 29),g 31 30 false (.a7 1 3),g 32 30 false (.ld false 1 31),g 33 30 false (.bin .eql 32 (k 2)),
 g 34 26 true (.pick 30 (.c (.bool true)) 33),o 35 (.pick 26 34 (.c (.bool false))),m 2 35]
def c:=(s (d r0 [0,2]) (s (s (d r1 [3,4,5,6,7,8,9,10,11,12,13,14,15,16,17,18,19,20,21]) (i 22 (s (d r2 [1,22]) .ret) .skip)) (s (d r3 [1,22,23,24,25,26,27,28,29,30,31,32,33,34,35]) .ret)))
end TA
def TA:AFn:=⟨1,TA.c,[.tmp 2],false⟩
namespace S9
def r0:=[o 1 (.box 1 0),o 2 (.b9 (k 0))]
def r1:=[o 3 (.ld true 4 1),o 4 (.call 2 [3]),o 5 (.un .not 4)]
def r2:=[o 2 (.b9 (k 0))]
def r3:=[o 6 (.a7 1 0),o 7 (.ld false 1 6),o 8 (.bin .sub 7 (k 1)),o 9 (.bin .shl (k 1) 8),o 10 (.un .neg 9),m 2 10]
def c:=(s (d r0 [0,2]) (s (s (d r1 [3,4]) (i 5 (s (d r2 [1,5]) .ret) .skip)) (s (d r3 [1,5,6,7,8,9,10]) .ret)))
end S9
def S9:AFn:=⟨1,S9.c,[.tmp 2],false⟩
namespace S8
def r0:=[o 1 (.box 1 0),o 2 (.b9 (k 0))]
def r1:=[o 3 (.ld true 4 1),o 4 (.call 2 [3]),o 5 (.un .not 4)]
def r2:=[o 2 (.b9 (k 0))]
def r3:=[o 6 (.a7 1 0),o 7 (.ld false 1 6),o 8 (.bin .sub 7 (k 1)),o 9 (.bin .shl (k 1) 8),o 10 (.bin .sub 9 (k 1)),m 2 10]
def c:=(s (d r0 [0,2]) (s (s (d r1 [3,4]) (i 5 (s (d r2 [1,5]) .ret) .skip)) (s (d r3 [1,5,6,7,8,9,10]) .ret)))
end S8
def S8:AFn:=⟨1,S8.c,[.tmp 2],false⟩
namespace S7
def r0:=[o 2 (.box 2 0),o 4 (.b9 (.c (.bool false)))]
def r1:=[o 5 (.ld true 4 2),o 6 (.call 2 [5]),m 7 6,g 8 7 true (.b9 1),g 9 7 true (.ld true 4 2),g 10 7 true (.call 3 [9]),g 11 7 true (.bin .geq 8 10),
 o 12 (.pick 7 11 (.c (.bool false))),m 13 12,g 14 13 true (.b9 1),g 15 13 true (.ld true 4 2),g 16 13 true (.call 4 [15]),g 17 13 true (.bin .leq 14 16),
 o 18 (.pick 13 17 (.c (.bool false))),m 4 18]
def c:=(s (d r0 [0,4]) (s (d r1 [1,2,5,6,7,8,9,10,11,12,13,14,15,16,17,18]) .ret))
end S7
def S7:AFn:=⟨2,S7.c,[.tmp 4],false⟩
structure o5 (L:Lib):Prop where
 TC:L 1=some F.TC
 TA:L 2=some F.TA
 S9:L 3=some F.S9
 S8:L 4=some F.S8
 S7:L 5=some F.S7
end Go.e8.F

namespace Go.e8.F
open C
structure qu (L:Lib):Prop extends o5 L where
structure su (L:Lib):Prop extends fb L,qu L where
end Go.e8.F

namespace Go.e8.F
open C
namespace VC
def r0:=[o 1 (.box 1 0),o 2 (.alloc 2 [(.bool false),.nil,.nil])]
def r1:=[o 3 (.a7 1 0),o 4 (.a7 3 0),o 5 (.ld false 1 4),o 6 (.un .not 5),o 7 (.a7 1 0),o 8 (.a7 7 1),o 9 (.ld false 1 8),
 o 10 (.build [(.bool false),.nil] [(0,1,6),(1,1,9)]),o 11 (.a7 1 2),o 12 (.ld false 1 11),
 o 13 (.build [(.bool false),.nil,.nil] [(0,2,10),(2,1,12)]),n (.st 3 2 13)]
def c:=(s (d r0 [0]) (s (d r1 [1,3,4,5,6,7,8,9,10,11,12,13]) .ret))
end VC
def VC:AFn:=⟨1,VC.c,[.cell 2 true 3],false⟩
namespace U9
def r0:=[o 2 (.box 2 0),o 3 (.box 3 1),o 4 (.alloc 4 [(.bool false),.nil,.nil])]
def r1:=[o 5 (.ld true 3 2),o 6 (.ld true 3 3),o 7 (.n6 149 [6]),o 8 (.call 98 [5,7]),n (.st 3 4 8)]
def c:=(s (d r0 [0,1]) (s (e r1 [2,3,5,6,7,8]) .ret))
end U9
def U9:AFn:=⟨2,U9.c,[.cell 4 true 3],false⟩
namespace U5
def r0:=[o 4 (.alloc 4 [(.bool false),.nil,.nil])]
def r1:=[m 5 1,o 6 (.bin .eql 5 (k 0))]
def r2:=[o 7 (.call 96 [(k 0)]),n (.st 3 4 7)]
def r3:=[m 8 0,o 9 (.call 85 [8]),m 10 1,o 11 (.call 85 [10]),o 12 (.j7 93 [9,11]),o 13 (.call 94 [12]),n (.st 3 4 13)]
def c:=(s (p r0) (s (s (d r1 [5]) (i 6 (s (d r2 [0,1,6,7]) .ret) .skip)) (s (d r3 [0,1,6,8,9,10,11,12,13]) .ret)))
end U5
def U5:AFn:=⟨2,U5.c,[.cell 4 true 3],false⟩
structure w6 (L:Lib):Prop extends b7 L where
 VC:L 149=some F.VC
 U9:L 150=some F.U9
 U5:L 151=some F.U5
end Go.e8.F

namespace Go.e8.F
open C
namespace NX
def r0:=[o 2 (.b9 (.c .nil))]
def r1:=[m 4 0,o 5 (.len 4),m 3 5]
def r2:=[m 6 3,o 7 (.bin .gtr 6 (k 0)),m 8 7,g 9 8 true (.b9 0),g 10 8 true (.b9 3),g 11 8 true (.bin .sub 10 (k 1)),g 12 8 true (.a5 none 3 9 11),
 g 13 8 true (.ld true 3 12),g 14 8 true (.call 97 [13]),g 15 8 true (.bin .eql 14 (k 0)),o 16 (.pick 8 15 (.c (.bool false)))]
def r3:=[m 17 3,o 18 (.bin .sub 17 (k 1)),m 3 18]
def r4:=[m 19 0,m 20 3,o 21 (.jq 3 19 none (some 20)),m 2 21]
def l1:=(s (s (d r2 [6,7,8,9,10,11,12,13,14,15]) (i 16 .skip (x 0))) (b 1 (d r3 [16,17,18])))
def c:=(s (d r0 [2]) (s (d r1 [4,5]) (s (b 0 (w l1)) (s (d r4 [0,3,16,19,20,21]) .ret))))
end NX
def NX:AFn:=⟨1,NX.c,[.tmp 2],false⟩
namespace U0
def r0:=[o 2 (.b9 (.c .nil))]
def r1:=[m 5 0,o 6 (.j7 169 [5]),o 7 (.len 6),o 8 (.mk 170008 3 56 [(.bool false),.nil,.nil] 7 7),m 3 8]
def r2:=[m 9 3,o 10 (.len 9),o 11 (.b9 (k 0))]
def r3:=[o 12 (.bin .lss 11 10)]
def r4:=[m 13 11,m 4 13]
def r5:=[m 14 3,m 15 4,m 16 0,m 17 4,o 18 (.a5 none 3 16 17),o 19 (.ld true 3 18),o 20 (.call 95 [19]),o 21 (.a5 none 3 14 15),n (.st 3 21 20)]
def r6:=[o 22 (.bin .add 11 (k 1)),m 11 22]
def r7:=[m 23 3,m 2 23]
def l1:=(s (p r3) (s (i 12 .skip (x 0)) (s (b 1 (s (d r4 [12,13]) (d r5 [4,14,15,16,17,18,19,20,21]))) (d r6 [22]))))
def c:=(s (d r0 [2]) (s (d r1 [5,6,7,8]) (s (s (d r2 [9]) (b 0 (w l1))) (s (d r7 [0,3,10,11,12,23]) .ret))))
end U0
def U0:AFn:=⟨1,U0.c,[.tmp 2],false⟩
structure au (L:Lib):Prop extends b7 L where
 NX:L 169=some F.NX
 U0:L 170=some F.U0
end Go.e8.F

namespace Go.e8.F
open C
namespace V4
def r0:=[o 1 (.box 1 0),o 2 (.alloc 2 [(.bool false),.nil,.nil])]
def r1:=[o 3 (.ld true 3 1),o 4 (.call 123 [3]),n (.st 3 1 4)]
def r2:=[o 5 (.a7 1 0),o 6 (.ld true 2 5),o 7 (.call 114 [6]),o 8 (.a7 1 0),n (.st 2 8 7)]
def r3:=[o 9 (.ld true 3 1),n (.st 3 2 9)]
def c:=(s (d r0 [0]) (s (d r1 [3,4]) (s (d r2 [5,6,7,8]) (s (d r3 [1,9]) .ret))))
end V4
def V4:AFn:=⟨1,V4.c,[.cell 2 true 3],false⟩
namespace N7
def r0:=[o 2 (.box 2 0),o 3 (.box 3 1),o 4 (.alloc 4 [(.bool false),.nil,.nil])]
def r1:=[o 5 (.ld true 3 2),o 6 (.ld true 3 3),o 7 (.call 152 [6]),o 8 (.call 126 [5,7]),n (.st 3 4 8)]
def c:=(s (d r0 [0,1]) (s (e r1 [2,3,5,6,7,8]) .ret))
end N7
def N7:AFn:=⟨2,N7.c,[.cell 4 true 3],false⟩
namespace V1
def r0:=[o 2 (.box 2 0),o 3 (.box 3 1),o 4 (.alloc 4 [(.bool false),.nil,.nil]),o 5 (.b9 (k 0))]
def r1:=[o 11 (.ld true 3 2),o 12 (.call 122 [11]),m 10 12,o 13 (.ext 10 0),o 14 (.ext 10 1),o 6 (.alloc 6 [(.bool false),.nil]),
 o 7 (.alloc 7 [(.bool false),.nil]),n (.st 2 6 13),n (.st 2 7 14)]
def r2:=[o 16 (.ld true 3 3),o 17 (.call 122 [16]),m 15 17,o 18 (.ext 15 0),o 19 (.ext 15 1),o 8 (.alloc 8 [(.bool false),.nil]),
 o 9 (.alloc 9 [(.bool false),.nil]),n (.st 2 8 18),n (.st 2 9 19)]
def r3:=[o 20 (.ld true 2 8),o 21 (.call 113 [20]),o 22 (.bin .eql 21 (k 0))]
def r4:=[o 23 (.build [(.bool false),.nil,.nil] []),n (.st 3 4 23),o 5 (.b9 (k 3))]
def r5:=[o 24 (.ld true 2 6),o 25 (.ld true 2 9),o 26 (.call 118 [24,25]),o 27 (.ld true 2 7),o 28 (.ld true 2 8),o 29 (.call 118 [27,28]),
 o 30 (.call 121 [26,29]),n (.st 3 4 30),o 5 (.b9 (k 0))]
def c:=(s (d r0 [0,1,5]) (s (d r1 [2,10,11,12,13,14]) (s (d r2 [3,15,16,17,18,19]) (s (s (d r3 [20,21]) (i 22 (s (d r4 [6,7,8,9,22,23]) .ret) .skip)) (s (e r5 [6,7,8,9,22,24,25,26,27,28,29,30]) .ret)))))
end V1
def V1:AFn:=⟨2,V1.c,[.cell 4 true 3,.tmp 5],false⟩
namespace V7
def r0:=[o 1 (.box 1 0),o 2 (.b9 (k 0))]
def r1:=[o 6 (.ld true 3 1),o 7 (.call 122 [6]),m 5 7,o 8 (.ext 5 0),o 9 (.ext 5 1),o 3 (.alloc 3 [(.bool false),.nil]),o 4 (.alloc 4 [(.bool false),.nil]),
 n (.st 2 3 8),n (.st 2 4 9)]
def r2:=[o 10 (.ld true 2 3),o 11 (.call 113 [10]),m 2 11]
def c:=(s (d r0 [0,2]) (s (d r1 [1,4,5,6,7,8,9]) (s (d r2 [3,10,11]) .ret)))
end V7
def V7:AFn:=⟨1,V7.c,[.tmp 2],false⟩
structure u9 (L:Lib):Prop extends c4 L where
 V4:L 152=some F.V4
 N7:L 153=some F.N7
 V1:L 154=some F.V1
 V7:L 155=some F.V7
end Go.e8.F

namespace Go.e8.F
open C
structure nh (L:Lib):Prop extends u9 L where
structure vz (L:Lib):Prop extends su L,w6 L,au L,nh L where
end Go.e8.F

namespace Go.e8.F
open C
namespace TF
def r0:=[o 2 (.box 2 0),o 3 (.box 3 1),o 4 (.b9 (k 0))]
def r1:=[o 7 (.ld true 2 2),o 8 (.call 86 [7]),o 9 (.ld true 2 3),o 10 (.call 86 [9]),m 5 8,m 6 10]
def r2:=[m 12 5,m 13 6,o 14 (.bin .lss 12 13),m 11 14]
def r3:=[o 4 (.b9 (k (-1)))]
def r4:=[m 16 5,m 17 6,o 18 (.bin .gtr 16 17),m 15 18]
def r5:=[o 4 (.b9 (k 1))]
def r6:=[m 20 5,o 21 (.bin .eql 20 (k (-1))),m 19 21]
def r7:=[o 22 (.a7 3 1),o 23 (.ld false 1 22),o 24 (.a7 2 1),o 25 (.ld false 1 24),o 26 (.call 67 [23,25]),m 4 26]
def r8:=[o 27 (.a7 2 1),o 28 (.ld false 1 27),o 29 (.a7 3 1),o 30 (.ld false 1 29),o 31 (.call 67 [28,30]),m 4 31]
def c:=(s (d r0 [0,1,4]) (s (e r1 [7,8,9,10]) (s (b 0 (s (d r2 [12,13,14]) (i 11 (s (d r3 [2,3,5,6,11]) .ret) (s (d r4 [6,11,16,17,18]) (i 15 (s (d r5 [2,3,5,15]) .ret) (s (d r6 [5,15,20,21]) (i 19 (s (d r7 [2,3,19,22,23,24,25,26]) .ret) .skip))))))) (s (d r8 [2,3,19,27,28,29,30,31]) .ret))))
end TF
def TF:AFn:=⟨2,TF.c,[.tmp 4],false⟩
namespace NZ
def r0:=[o 2 (.box 2 0),o 3 (.box 3 1),o 4 (.b9 (k 0))]
def r1:=[q 7 [5,6] (.ld true 3 2),q 8 [5,6] (.n6 89 [7]),q 9 [5,6] (.ld true 3 3),q 10 [5,6] (.n6 89 [9]),
 o 5 (.alloc 5 [(.bool false),.nil,.nil,(.bool false)]),o 6 (.alloc 6 [(.bool false),.nil,.nil,(.bool false)]),n (.st 4 5 8),n (.st 4 6 10)]
def r2:=[o 11 (.a7 5 3),o 12 (.ld false 1 11),m 13 12,g 14 13 true (.a7 6 3),g 15 13 true (.ld false 1 14),o 16 (.pick 13 15 (.c (.bool false)))]
def r3:=[o 17 (.a7 5 0),o 18 (.a7 17 0),o 19 (.ld true 2 18),o 20 (.a7 6 0),o 21 (.a7 20 0),o 22 (.ld true 2 21),o 23 (.call 197 [19,22]),m 4 23]
def r4:=[o 24 (.a7 5 0),o 25 (.a7 24 0),o 26 (.ld true 2 25),o 27 (.a7 6 0),o 28 (.a7 27 2),o 29 (.ld false 1 28),o 30 (.n6 91 [29]),
 o 31 (.call 88 [26,30]),o 32 (.a7 6 0),o 33 (.a7 32 0),o 34 (.ld true 2 33),o 35 (.a7 5 0),o 36 (.a7 35 2),o 37 (.ld false 1 36),
 o 38 (.n6 91 [37]),o 39 (.call 88 [34,38]),o 40 (.call 197 [31,39]),m 4 40]
def c:=(s (d r0 [0,1,4]) (s (e r1 [2,3,7,8,9,10]) (s (s (d r2 [11,12,13,14,15]) (i 16 (s (d r3 [5,6,16,17,18,19,20,21,22,23]) .ret) .skip)) (s (e r4 [5,6,16,24,25,26,27,28,29,30,31,32,33,34,35,36,37,38,39,40]) .ret))))
end NZ
def NZ:AFn:=⟨2,NZ.c,[.tmp 4],false⟩
namespace U6
def r0:=[o 1 (.box 1 0),o 2 (.alloc 2 [(.bool false),.nil,.nil])]
def r1:=[o 3 (.ld true 3 1),o 4 (.n6 149 [3]),o 5 (.call 95 [4]),n (.st 3 2 5)]
def c:=(s (d r0 [0]) (s (d r1 [1,3,4,5]) .ret))
end U6
def U6:AFn:=⟨1,U6.c,[.cell 2 true 3],false⟩
namespace UZ
def r0:=[o 2 (.b9 (k 0))]
def r1:=[m 3 0,o 4 (.j7 169 [3]),o 5 (.len 4),o 6 (.bin .sub 5 (k 1)),m 2 6]
def c:=(s (d r0 [2]) (s (d r1 [0,3,4,5,6]) .ret))
end UZ
def UZ:AFn:=⟨1,UZ.c,[.tmp 2],false⟩
namespace WL
def r0:=[o 1 (.box 1 0),o 2 (.b9 (.c (.bool false)))]
def r1:=[o 3 (.a7 1 0),o 4 (.ld false 1 3),o 5 (.call 200 [4]),o 6 (.bin .gtr 5 (k 48)),m 7 6,g 8 7 false (.a7 1 1),g 9 7 false (.ld false 1 8),
 g 10 7 false (.call 200 [9]),g 11 7 false (.bin .gtr 10 (k 48)),o 12 (.pick 7 (.c (.bool true)) 11)]
def r2:=[o 2 (.b9 (.c (.bool false)))]
def r3:=[o 13 (.a7 1 1),o 14 (.ld false 1 13),o 15 (.len 14),o 16 (.bin .gtr 15 (k 0)),m 17 16,g 18 17 true (.a7 1 1),g 19 17 true (.ld false 1 18),
 g 20 17 true (.a5 none 3 19 (k 0)),g 21 17 true (.ld true 3 20),g 22 17 true (.call 96 [(k 1)]),g 23 17 true (.call 198 [21,22]),
 g 24 17 true (.bin .eql 23 (k 0)),o 25 (.pick 17 24 (.c (.bool false))),m 2 25]
def c:=(s (d r0 [0,2]) (s (s (d r1 [3,4,5,6,7,8,9,10,11]) (i 12 (s (d r2 [1,12]) .ret) .skip)) (s (e r3 [1,12,13,14,15,16,17,18,19,20,21,22,23,24,25]) .ret)))
end WL
def WL:AFn:=⟨1,WL.c,[.tmp 2],false⟩
namespace WS
def r0:=[o 2 (.b9 (k 0))]
def r1:=[m 4 0,o 5 (.len 4),o 6 (.bin .sub 5 (k 1)),m 3 6]
def r2:=[m 7 3,o 8 (.bin .gtr 7 (k 0))]
def r4:=[m 11 0,m 12 3,o 13 (.a5 none 3 11 12),o 14 (.ld true 3 13),o 15 (.call 97 [14]),o 16 (.bin .neq 15 (k 0))]
def r5:=[m 17 3,m 2 17]
def r3:=[m 9 3,o 10 (.bin .sub 9 (k 1)),m 3 10]
def r6:=[o 2 (.b9 (k 0))]
def l1:=(s (s (d r2 [7]) (i 8 .skip (x 0))) (s (b 1 (s (d r4 [8,11,12,13,14,15]) (i 16 (s (d r5 [0,3,16,17]) .ret) .skip))) (d r3 [9,10,16])))
def c:=(s (d r0 [2]) (s (s (d r1 [4,5,6]) (b 0 (w l1))) (s (d r6 [0,3,8]) .ret)))
end WS
def WS:AFn:=⟨1,WS.c,[.tmp 2],false⟩
namespace WR
def r0:=[o 4 (.alloc 4 [(.bool false),.nil,.nil])]
def r1:=[m 5 1,m 6 0,o 7 (.len 6),o 8 (.bin .lss 5 7)]
def r2:=[m 9 0,m 10 1,o 11 (.a5 none 3 9 10),o 12 (.ld true 3 11),o 13 (.call 95 [12]),n (.st 3 4 13)]
def r3:=[o 14 (.call 96 [(k 0)]),n (.st 3 4 14)]
def c:=(s (p r0) (s (s (d r1 [5,6,7]) (i 8 (s (d r2 [0,1,8,9,10,11,12,13]) .ret) .skip)) (s (d r3 [0,1,8,14]) .ret)))
end WR
def WR:AFn:=⟨2,WR.c,[.cell 4 true 3],false⟩
namespace WT
def r0:=[o 2 (.b9 (.c .nil))]
def r1:=[m 5 0,o 6 (.mk 6 3 56 [(.bool false),.nil,.nil] 5 5),m 3 6]
def r2:=[m 7 0,o 8 (.b9 (k 0))]
def r3:=[o 9 (.bin .lss 8 7)]
def r4:=[m 10 8,m 4 10]
def r5:=[m 11 3,m 12 4,o 13 (.call 96 [(k 0)]),o 14 (.a5 none 3 11 12),n (.st 3 14 13)]
def r6:=[o 15 (.bin .add 8 (k 1)),m 8 15]
def r7:=[m 16 3,m 2 16]
def l1:=(s (p r3) (s (i 9 .skip (x 0)) (s (b 1 (s (d r4 [9,10]) (d r5 [4,11,12,13,14]))) (d r6 [15]))))
def c:=(s (d r0 [2]) (s (d r1 [5,6]) (s (s (d r2 [0]) (b 0 (w l1))) (s (d r7 [3,7,8,9,16]) .ret))))
end WT
def WT:AFn:=⟨1,WT.c,[.tmp 2],false⟩
namespace OH
def r0:=[o 1 (.box 1 0),o 2 (.alloc 2 [.nil,.nil,.nil,(.bool false),.nil,.nil]),o 3 (.b9 (k 0))]
def r1:=[o 10 (.ld true 2 1),o 11 (.call 201 [10]),o 12 (.un .not 11)]
def r2:=[o 13 (.build [.nil,.nil,.nil,(.bool false),.nil,.nil] []),n (.st 6 2 13),o 3 (.b9 (k 2))]
def r3:=[o 14 (.a7 1 0),o 15 (.ld false 1 14),o 16 (.call 204 [15]),o 17 (.a7 1 1),o 18 (.ld false 1 17),o 19 (.call 204 [18]),o 20 (.mm true [16,19]),
 m 4 20]
def r4:=[m 21 4,o 22 (.bin .gtr 21 (k 16))]
def r5:=[o 23 (.build [.nil,.nil,.nil,(.bool false),.nil,.nil] []),n (.st 6 2 23),o 3 (.b9 (k 12))]
def r6:=[o 24 (.a7 1 0),o 25 (.ld false 1 24),o 26 (.call 205 [25,(k 0)]),m 27 4,o 28 (.x9 28 206 [27]),
 o 29 (.build [.nil,.nil,.nil,(.bool false),.nil,.nil] [(3,3,26),(1,1,28)]),o 5 (.alloc 5 [.nil,.nil,.nil,(.bool false),.nil,.nil]),
 n (.st 6 5 29)]
def r7:=[m 30 4,o 31 (.bin .gtr 30 (k 0))]
def r8:=[o 32 (.a7 5 1),o 33 (.ld false 1 32),o 34 (.call 96 [(k 1)]),o 35 (.a5 none 3 33 (k 0)),n (.st 3 35 34)]
def r9:=[m 36 4,o 37 (.b9 (k 0))]
def BM:=[o 38 (.bin .lss 37 36)]
def BZ:=[m 39 37,m 6 39]
def w4:=[m 40 4,o 41 (.x9 41 206 [40]),m 7 41]
def CD:=[m 42 6,o 43 (.bin .gtr 42 (k 0))]
def ay:=[m 44 7,m 45 6,o 46 (.bin .sub 45 (k 1)),o 47 (.call 96 [(k 1)]),o 48 (.a5 none 3 44 46),n (.st 3 48 47)]
def ct:=[m 49 4,o 50 (.b9 (k 0))]
def du:=[o 51 (.bin .lss 50 49)]
def EA:=[m 52 50,m 8 52]
def eg:=[m 53 7,m 54 8,o 55 (.a7 1 1),o 56 (.ld false 1 55),m 57 8,o 58 (.bin .add 57 (k 1)),o 59 (.call 205 [56,58]),o 60 (.call 199 [59]),
 o 61 (.a5 none 3 53 54),n (.st 3 61 60)]
def fw:=[o 62 (.bin .add 50 (k 1)),m 50 62]
def iq:=[o 63 (.a7 5 0),o 64 (.ld false 1 63),m 65 7,o 66 (.g8 66 1 [65]),o 67 (.app 67 1 24 64 66),o 68 (.a7 5 0),n (.st 1 68 67)]
def lu:=[o 69 (.a7 1 0),q 70 [9] (.ld false 1 69),q 71 [9] (.call 205 [70,(k 0)]),o 72 (.a7 1 1),q 73 [9] (.ld false 1 72),
 m 74 6,o 75 (.bin .add 74 (k 1)),q 76 [9] (.call 205 [73,75]),q 77 [9] (.call 99 [71,76]),
 o 9 (.alloc 9 [(.bool false),.nil,.nil]),n (.st 3 9 77)]
def nf:=[o 78 (.a7 5 2),q 79 [87] (.ld false 1 78),o 80 (.a7 1 0),o 81 (.ld false 1 80),m 82 6,o 83 (.bin .add 82 (k 1)),o 84 (.call 205 [81,83]),
 o 85 (.ld true 3 9),o 86 (.call 150 [84,85]),o 87 (.g8 87 3 [86]),o 88 (.app 88 3 56 79 87),o 89 (.a7 5 2),n (.st 1 89 88)]
def oh:=[o 90 (.bin .add 37 (k 1)),m 37 90]
def JL:=[o 91 (.ld true 6 5),n (.st 6 2 91),o 3 (.b9 (k 0))]
def l2:=(s (p du) (s (i 51 .skip (x 2)) (s (b 3 (s (d EA [51,52]) (d eg [8,53,54,55,56,57,58,59,60,61]))) (d fw [62]))))
def l1:=(s (p BM) (s (i 38 .skip (x 0)) (s (b 1 (s (d BZ [38,39]) (s (d w4 [40,41]) (s (s (d CD [42]) (i 43 (d ay [43,44,45,46,47,48]) (s (d ct [43]) (b 2 (w l2))))) (s (d iq [7,49,50,51,63,64,65,66,67,68]) (s (e lu [69,70,71,72,73,74,75,76,77]) (e nf [6,9,78,79,80,81,82,83,84,85,86,87,88,89]))))))) (d oh [90]))))
def c:=(s (d r0 [0,3]) (s (s (d r1 [10,11]) (i 12 (s (d r2 [1,12,13]) .ret) .skip)) (s (e r3 [12,14,15,16,17,18,19,20]) (s (s (d r4 [21]) (i 22 (s (d r5 [1,4,22,23]) .ret) .skip)) (s (d r6 [22,24,25,26,27,28,29]) (s (s (d r7 [30]) (i 31 (e r8 [31,32,33,34,35]) .skip)) (s (s (d r9 [31]) (b 0 (w l1))) (s (d JL [1,4,5,36,37,38,91]) .ret))))))))
end OH
def OH:AFn:=⟨1,OH.c,[.cell 2 true 6,.tmp 3],false⟩
structure q7 (L:Lib):Prop extends vz L where
 TF:L 197=some F.TF
 NZ:L 198=some F.NZ
 U6:L 199=some F.U6
 UZ:L 200=some F.UZ
 WL:L 201=some F.WL
 WS:L 204=some F.WS
 WR:L 205=some F.WR
 WT:L 206=some F.WT
 OH:L 207=some F.OH
end Go.e8.F

namespace Go.e8.F
open C
namespace U3
def r0:=[o 1 (.box 1 0),o 2 (.alloc 2 [(.bool false),.nil,.nil])]
def r1:=[o 3 (.a7 1 0),o 4 (.a7 3 1),o 5 (.ld false 1 4),o 6 (.build [(.bool false),.nil] [(1,1,5)]),o 7 (.a7 1 2),o 8 (.ld false 1 7),
 o 9 (.build [(.bool false),.nil,.nil] [(0,2,6),(2,1,8)]),o 10 (.call 95 [9]),n (.st 3 2 10)]
def c:=(s (d r0 [0]) (s (d r1 [1,3,4,5,6,7,8,9,10]) .ret))
end U3
def U3:AFn:=⟨1,U3.c,[.cell 2 true 3],false⟩
structure ew (L:Lib):Prop extends q7 L where
 U3:L 256=some F.U3
end Go.e8.F

namespace Go.e8.F
open C
namespace UT
def r0:=[o 1 (.box 1 0),o 2 (.alloc 2 [(.bool false),.nil,.nil])]
def r1:=[o 3 (.ld true 3 1),o 4 (.call 95 [3]),o 5 (.qa 4 2 1 false),o 6 (.build [(.bool false),.nil] [(1,1,5)]),o 7 (.g8 7 1 [(.c (.int .u32 (1)))]),
 o 8 (.build [(.bool false),.nil,.nil] [(0,2,6),(2,1,7)]),n (.st 3 2 8)]
def c:=(s (d r0 [0]) (s (d r1 [1,3,4,5,6,7,8]) .ret))
end UT
def UT:AFn:=⟨1,UT.c,[.cell 2 true 3],false⟩
namespace UR
def r0:=[o 2 (.alloc 2 [(.bool false),.nil,.nil])]
def r1:=[o 10 (.call 96 [(k 1)]),o 3 (.alloc 3 [(.bool false),.nil,.nil]),n (.st 3 3 10)]
def r2:=[m 11 0,o 12 (.len 11),o 13 (.b9 (k 0))]
def r3:=[o 14 (.bin .lss 13 12)]
def r4:=[o 15 (.a5 none 1 11 13),o 16 (.ld false 1 15),m 5 16]
def r5:=[m 17 5,o 18 (.len 17),o 19 (.b9 (k 0))]
def r6:=[o 20 (.bin .lss 19 18)]
def r7:=[o 21 (.a5 none 3 17 19),o 22 (.ld true 3 21),o 7 (.alloc 7 [(.bool false),.nil,.nil]),n (.st 3 7 22)]
def r8:=[q 24 [8] (.ld true 3 3),q 25 [8] (.ld true 3 7),q 26 [8] (.call 294 [25]),q 27 [8] (.call 100 [24,26]),m 23 27,
 o 28 (.ext 23 0),o 29 (.ext 23 1),o 8 (.alloc 8 [(.bool false),.nil,.nil]),n (.st 3 8 28),m 9 29]
def r9:=[o 30 (.ld true 3 3),o 31 (.ld true 3 8),o 32 (.call 294 [31]),o 33 (.call 99 [30,32]),n (.st 3 3 33)]
def BM:=[o 34 (.bin .add 19 (k 1)),m 19 34]
def BZ:=[o 35 (.bin .add 13 (k 1)),m 13 35]
def w4:=[o 36 (.ld true 3 3),n (.st 3 2 36)]
def l2:=(s (p r6) (s (i 20 .skip (x 2)) (s (b 3 (s (d r7 [20,21,22]) (s (e r8 [7,9,23,24,25,26,27,28,29]) (e r9 [8,30,31,32,33])))) (d BM [34]))))
def l1:=(s (p r3) (s (i 14 .skip (x 0)) (s (b 1 (s (d r4 [14,15,16]) (s (d r5 [5]) (b 2 (w l2))))) (d BZ [17,18,19,20,35]))))
def c:=(s (p r0) (s (d r1 [10]) (s (s (d r2 [0]) (b 0 (w l1))) (s (d w4 [3,11,12,13,14,36]) .ret))))
end UR
def UR:AFn:=⟨1,UR.c,[.cell 2 true 3],false⟩
namespace UX
def r0:=[o 3 (.box 3 1),o 4 (.b9 (.c .nil))]
def r1:=[m 7 0,o 8 (.len 7),o 9 (.mk 9 3 56 [(.bool false),.nil,.nil] 8 8),m 5 9]
def r2:=[m 10 0,o 11 (.len 10),o 12 (.b9 (k 0))]
def r3:=[o 13 (.bin .lss 12 11)]
def r4:=[m 14 12,m 6 14]
def r5:=[m 15 5,m 16 6,m 17 0,m 18 6,o 19 (.a5 none 3 17 18),o 20 (.ld true 3 19),o 21 (.ld true 3 3),o 22 (.call 99 [20,21]),o 23 (.a5 none 3 15 16),
 n (.st 3 23 22)]
def r6:=[o 24 (.bin .add 12 (k 1)),m 12 24]
def r7:=[m 25 5,m 4 25]
def l1:=(s (p r3) (s (i 13 .skip (x 0)) (s (b 1 (s (d r4 [13,14]) (e r5 [6,15,16,17,18,19,20,21,22,23]))) (d r6 [24]))))
def c:=(s (d r0 [1,4]) (s (d r1 [7,8,9]) (s (s (d r2 [10]) (b 0 (w l1))) (s (d r7 [0,3,5,11,12,13,25]) .ret))))
end UX
def UX:AFn:=⟨2,UX.c,[.tmp 4],false⟩
namespace UU
def r0:=[o 4 (.alloc 4 [(.bool false),.nil,.nil])]
def r1:=[o 7 (.call 96 [(k 0)]),o 5 (.alloc 5 [(.bool false),.nil,.nil]),n (.st 3 5 7)]
def r2:=[m 8 0,o 9 (.len 8),o 10 (.b9 (k 0))]
def r3:=[o 11 (.bin .lss 10 9)]
def r4:=[m 12 10,m 6 12]
def r5:=[m 13 0,m 14 6,o 15 (.a5 none 3 13 14),o 16 (.ld true 3 15),o 17 (.call 97 [16]),o 18 (.bin .neq 17 (k 0)),m 19 18,g 20 19 true (.b9 1),
 g 21 19 true (.b9 6),g 22 19 true (.a5 none 3 20 21),g 23 19 true (.ld true 3 22),g 24 19 true (.call 97 [23]),g 25 19 true (.bin .neq 24 (k 0)),
 o 26 (.pick 19 25 (.c (.bool false)))]
def r6:=[o 27 (.ld true 3 5),m 28 0,m 29 6,o 30 (.a5 none 3 28 29),o 31 (.ld true 3 30),m 32 1,m 33 6,o 34 (.a5 none 3 32 33),o 35 (.ld true 3 34),
 o 36 (.call 99 [31,35]),o 37 (.call 98 [27,36]),n (.st 3 5 37)]
def r7:=[o 38 (.bin .add 10 (k 1)),m 10 38]
def r8:=[o 39 (.ld true 3 5),n (.st 3 4 39)]
def l1:=(s (p r3) (s (i 11 .skip (x 0)) (s (b 1 (s (d r4 [11,12]) (s (d r5 [13,14,15,16,17,18,19,20,21,22,23,24,25]) (i 26 (e r6 [6,26,27,28,29,30,31,32,33,34,35,36,37]) .skip)))) (d r7 [6,26,38]))))
def c:=(s (p r0) (s (d r1 [7]) (s (s (d r2 [8]) (b 0 (w l1))) (s (d r8 [0,1,5,9,10,11,39]) .ret))))
end UU
def UU:AFn:=⟨2,UU.c,[.cell 4 true 3],false⟩
namespace UV
def r0:=[o 2 (.b9 (.c .nil))]
def r1:=[m 10 0,o 11 (.len 10),m 3 11]
def r2:=[m 12 3,o 13 (.mk 13 1 24 [.nil] 12 12),m 4 13]
def r3:=[m 14 3,o 15 (.b9 (k 0))]
def r4:=[o 16 (.bin .lss 15 14)]
def r5:=[m 17 15,m 5 17]
def r6:=[m 18 4,m 19 5,m 20 3,o 21 (.mk 21 3 56 [(.bool false),.nil,.nil] 20 20),o 22 (.a5 none 1 18 19),n (.st 1 22 21)]
def r7:=[o 23 (.bin .add 15 (k 1)),m 15 23]
def r8:=[m 24 3,o 25 (.mk 25 3 56 [(.bool false),.nil,.nil] 24 24),m 6 25]
def r9:=[m 26 3,o 27 (.b9 (k 0))]
def BM:=[o 28 (.bin .lss 27 26)]
def BZ:=[m 29 27,m 7 29]
def w4:=[m 30 3,o 31 (.b9 (k 0))]
def CD:=[o 32 (.bin .lss 31 30)]
def ay:=[m 33 31,m 8 33]
def ct:=[m 34 6,m 35 8,m 36 0,m 37 8,o 38 (.a5 none 1 36 37),o 39 (.ld false 1 38),m 40 7,o 41 (.a5 none 3 39 40),o 42 (.ld true 3 41),
 o 43 (.a5 none 3 34 35),n (.st 3 43 42)]
def du:=[o 44 (.bin .add 31 (k 1)),m 31 44]
def EA:=[m 45 3,o 46 (.b9 (k 0))]
def eg:=[o 47 (.bin .lss 46 45)]
def fw:=[m 48 46,m 9 48]
def iq:=[m 49 4,m 50 9,o 51 (.a5 none 1 49 50),o 52 (.ld false 1 51),m 53 7,m 54 0,m 55 9,o 56 (.a5 none 1 54 55),o 57 (.ld false 1 56),m 58 6,
 o 59 (.call 297 [57,58]),o 60 (.a5 none 3 52 53),n (.st 3 60 59)]
def lu:=[o 61 (.bin .add 46 (k 1)),m 46 61]
def nf:=[o 62 (.bin .add 27 (k 1)),m 27 62]
def oh:=[m 63 4,m 2 63]
def l1:=(s (p r4) (s (i 16 .skip (x 0)) (s (b 1 (s (d r5 [16,17]) (d r6 [5,18,19,20,21,22]))) (d r7 [23]))))
def l3:=(s (p CD) (s (i 32 .skip (x 4)) (s (b 5 (s (d ay [32,33]) (d ct [8,34,35,36,37,38,39,40,41,42,43]))) (d du [44]))))
def l4:=(s (p eg) (s (i 47 .skip (x 6)) (s (b 7 (s (d fw [47,48]) (e iq [9,49,50,51,52,53,54,55,56,57,58,59,60]))) (d lu [61]))))
def l2:=(s (p BM) (s (i 28 .skip (x 2)) (s (b 3 (s (d BZ [28,29]) (s (s (p w4) (b 4 (w l3))) (s (d EA [30,31,32]) (b 6 (w l4)))))) (d nf [7,45,46,47,62]))))
def c:=(s (d r0 [2]) (s (d r1 [10,11]) (s (d r2 [12,13]) (s (s (p r3) (b 0 (w l1))) (s (d r8 [14,15,16,24,25]) (s (s (p r9) (b 2 (w l2))) (s (d oh [0,3,4,6,26,27,28,63]) .ret)))))))
end UV
def UV:AFn:=⟨1,UV.c,[.tmp 2],false⟩
namespace UY
def r0:=[o 2 (.alloc 2 [(.bool false),.nil,.nil])]
def r1:=[o 6 (.call 96 [(k 0)]),o 3 (.alloc 3 [(.bool false),.nil,.nil]),n (.st 3 3 6)]
def r2:=[m 7 0,o 8 (.len 7),o 9 (.b9 (k 0))]
def r3:=[o 10 (.bin .lss 9 8)]
def r4:=[o 11 (.a5 none 3 7 9),o 12 (.ld true 3 11),o 5 (.alloc 5 [(.bool false),.nil,.nil]),n (.st 3 5 12)]
def r5:=[o 13 (.ld true 3 3),o 14 (.ld true 3 5),o 15 (.call 256 [14]),o 16 (.call 98 [13,15]),n (.st 3 3 16)]
def r6:=[o 17 (.bin .add 9 (k 1)),m 9 17]
def r7:=[o 18 (.ld true 3 3),n (.st 3 2 18)]
def l1:=(s (p r3) (s (i 10 .skip (x 0)) (s (b 1 (s (d r4 [10,11,12]) (e r5 [5,13,14,15,16]))) (d r6 [17]))))
def c:=(s (p r0) (s (d r1 [6]) (s (s (d r2 [0]) (b 0 (w l1))) (s (d r7 [3,7,8,9,10,18]) .ret))))
end UY
def UY:AFn:=⟨1,UY.c,[.cell 2 true 3],false⟩
namespace US
def r0:=[o 3 (.box 3 1),o 4 (.b9 (.c (.bool false)))]
def r1:=[m 8 0,o 9 (.len 8),o 10 (.b9 (k 0))]
def r2:=[o 11 (.bin .lss 10 9)]
def r3:=[o 12 (.a5 none 1 8 10),o 13 (.ld false 1 12),m 6 13]
def r4:=[m 14 6,o 15 (.call 300 [14]),o 7 (.alloc 7 [(.bool false),.nil,.nil]),n (.st 3 7 15)]
def r5:=[o 16 (.ld true 3 7),o 17 (.ld true 3 7),o 18 (.call 98 [16,17]),o 19 (.ld true 3 3),o 20 (.call 198 [18,19]),o 21 (.bin .gtr 20 (k 0))]
def r6:=[o 4 (.b9 (.c (.bool false)))]
def r7:=[o 22 (.bin .add 10 (k 1)),m 10 22]
def r8:=[o 4 (.b9 (.c (.bool true)))]
def l1:=(s (p r2) (s (i 11 .skip (x 0)) (s (b 1 (s (d r3 [11,12,13]) (s (d r4 [6,14,15]) (s (e r5 [7,16,17,18,19,20]) (i 21 (s (d r6 [3,8,9,10,21]) .ret) .skip))))) (d r7 [21,22]))))
def c:=(s (d r0 [1,4]) (s (s (d r1 [0]) (b 0 (w l1))) (s (d r8 [3,8,9,10,11]) .ret)))
end US
def US:AFn:=⟨2,US.c,[.tmp 4],false⟩
namespace UW
def r0:=[o 2 (.alloc 2 [.nil,(.bool false),.nil,.nil,z,(.bool false),.nil,.nil]),o 3 (.b9 (k 0))]
def r1:=[m 9 0,o 10 (.call 295 [9]),o 11 (.call 96 [(k 1)]),
 o 12 (.build [.nil,(.bool false),.nil,.nil,z,(.bool false),.nil,.nil] [(1,3,10),(4,1,(k 1)),(5,3,11)]),
 o 4 (.alloc 4 [.nil,(.bool false),.nil,.nil,z,(.bool false),.nil,.nil]),n (.st 8 4 12)]
def r2:=[m 13 0,o 14 (.len 13),o 15 (.b9 (k 0))]
def r3:=[o 16 (.bin .lss 15 14)]
def r4:=[o 17 (.a5 none 1 13 15),o 18 (.ld false 1 17),m 6 18]
def r5:=[o 19 (.a7 4 0),q 20 [25] (.ld false 1 19),m 21 6,o 22 (.a7 4 1),o 23 (.ld true 3 22),o 24 (.call 296 [21,23]),o 25 (.g8 25 1 [24]),
 o 26 (.app 26 1 24 20 25),o 27 (.a7 4 0),n (.st 1 27 26)]
def r6:=[o 28 (.bin .add 15 (k 1)),m 15 28]
def r7:=[o 29 (.a7 4 0),q 30 [8] (.ld false 1 29),o 31 (.a7 4 1),q 32 [8] (.ld true 3 31),o 8 (.alloc 8 [(.bool false),.nil,.nil]),
 m 7 30,n (.st 3 8 32)]
def r8:=[m 33 7,o 34 (.ld true 3 8),o 35 (.call 302 [33,34]),o 36 (.un .not 35)]
def r9:=[o 37 (.a7 4 4),o 38 (.ld false 1 37),o 39 (.bin .eql 38 (k 64))]
def BM:=[o 40 (.build [.nil,(.bool false),.nil,.nil,z,(.bool false),.nil,.nil] []),n (.st 8 2 40),o 3 (.b9 (k 14))]
def BZ:=[m 41 7,o 42 (.call 299 [41]),o 43 (.ld true 3 8),o 44 (.ld true 3 8),o 45 (.call 99 [43,44]),m 7 42,n (.st 3 8 45)]
def w4:=[o 46 (.a7 4 4),o 47 (.ld false 1 46),o 48 (.bin .mul 47 (k 2)),o 49 (.a7 4 4),n (.st 1 49 48)]
def CD:=[o 50 (.a7 4 4),o 51 (.ld false 1 50),o 52 (.bin .mul (k 2) 51),o 53 (.bin .sub 52 (k 1)),o 54 (.b9 (k 0))]
def ay:=[o 55 (.bin .lss 54 53)]
def ct:=[o 56 (.a7 4 5),o 57 (.ld true 3 56),o 58 (.a7 4 1),o 59 (.ld true 3 58),o 60 (.call 99 [57,59]),o 61 (.a7 4 5),n (.st 3 61 60)]
def du:=[o 62 (.bin .add 54 (k 1)),m 54 62]
def EA:=[o 63 (.ld true 8 4),n (.st 8 2 63),o 3 (.b9 (k 0))]
def l1:=(s (p r3) (s (i 16 .skip (x 0)) (s (b 1 (s (d r4 [16,17,18]) (e r5 [6,19,20,21,22,23,24,25,26,27]))) (d r6 [28]))))
def l2:=(s (s (d r8 [33,34,35]) (i 36 .skip (x 2))) (b 3 (s (s (d r9 [36,37,38]) (i 39 (s (d BM [4,7,8,39,40]) .ret) .skip)) (s (e BZ [39,41,42,43,44,45]) (d w4 [46,47,48,49])))))
def l3:=(s (p ay) (s (i 55 .skip (x 4)) (s (b 5 (d ct [55,56,57,58,59,60,61])) (d du [62]))))
def c:=(s (d r0 [3]) (s (d r1 [9,10,11,12]) (s (s (d r2 [0]) (b 0 (w l1))) (s (e r7 [13,14,15,16,29,30,31,32]) (s (b 2 (w l2)) (s (s (d CD [7,8,36,50,51,52]) (b 4 (w l3))) (s (d EA [4,53,54,55,63]) .ret)))))))
end UW
def UW:AFn:=⟨1,UW.c,[.cell 2 true 8,.tmp 3],false⟩
namespace UQ
def r0:=[o 2 (.b9 (k 0)),o 3 (.b9 (k 0))]
def r1:=[m 8 0,o 9 (.len 8),o 10 (.bin .gtr 9 (k 16))]
def r2:=[o 2 (.b9 (k 0)),o 3 (.b9 (k 2))]
def r3:=[m 11 0,o 12 (.len 11),o 13 (.b9 (k 0))]
def r4:=[o 14 (.bin .lss 13 12)]
def r5:=[o 15 (.a5 none 1 11 13),o 16 (.ld false 1 15),m 5 16]
def r6:=[m 17 5,o 18 (.len 17),m 19 0,o 20 (.len 19),o 21 (.bin .neq 18 20)]
def r7:=[o 2 (.b9 (k 0)),o 3 (.b9 (k 2))]
def r8:=[o 22 (.bin .add 13 (k 1)),m 13 22]
def r9:=[m 24 0,o 25 (.call 303 [24]),m 23 25,o 26 (.ext 23 0),o 27 (.ext 23 1),o 6 (.alloc 6 [.nil,(.bool false),.nil,.nil,z,(.bool false),.nil,.nil]),
 n (.st 8 6 26),m 7 27]
def BM:=[o 28 (.a7 6 4),o 29 (.ld false 1 28),m 30 7,m 2 29,m 3 30]
def l1:=(s (p r4) (s (i 14 .skip (x 0)) (s (b 1 (s (d r5 [14,15,16]) (s (d r6 [5,17,18,19,20]) (i 21 (s (d r7 [0,11,12,13,21]) .ret) .skip)))) (d r8 [21,22]))))
def c:=(s (d r0 [2,3]) (s (s (d r1 [8,9]) (i 10 (s (d r2 [0,10]) .ret) .skip)) (s (s (d r3 [10]) (b 0 (w l1))) (s (d r9 [0,11,12,13,14,23,24,25,26,27]) (s (d BM [6,7,28,29,30]) .ret)))))
end UQ
def UQ:AFn:=⟨1,UQ.c,[.tmp 2,.tmp 3],false⟩
structure ae (L:Lib):Prop extends ew L where
 UT:L 294=some F.UT
 UR:L 295=some F.UR
 UX:L 296=some F.UX
 UU:L 297=some F.UU
 UV:L 299=some F.UV
 UY:L 300=some F.UY
 US:L 302=some F.US
 UW:L 303=some F.UW
 UQ:L 306=some F.UQ
end Go.e8.F

namespace Go.e8.F
open C
namespace VN
def r0:=[o 1 (.box 1 0),o 2 (.alloc 2 [(.bool false),.nil])]
def r1:=[o 3 (.a7 1 1),o 4 (.ld false 1 3),o 5 (.call 101 [4]),o 6 (.build [(.bool false),.nil] [(1,1,5)]),n (.st 2 2 6)]
def c:=(s (d r0 [0]) (s (d r1 [1,3,4,5,6]) .ret))
end VN
def VN:AFn:=⟨1,VN.c,[.cell 2 true 2],false⟩
namespace VY
def r0:=[o 1 (.box 1 0),o 2 (.alloc 2 [(.bool false),.nil,.nil])]
def r1:=[o 3 (.ld true 3 1),o 4 (.call 123 [3]),n (.st 3 1 4)]
def r2:=[o 5 (.a7 1 0),o 6 (.ld true 2 5),o 7 (.call 308 [6]),o 8 (.a7 1 0),n (.st 2 8 7)]
def r3:=[o 9 (.ld true 3 1),n (.st 3 2 9)]
def c:=(s (d r0 [0]) (s (d r1 [3,4]) (s (d r2 [5,6,7,8]) (s (d r3 [1,9]) .ret))))
end VY
def VY:AFn:=⟨1,VY.c,[.cell 2 true 3],false⟩
namespace WG
def r0:=[o 2 (.b9 (.c (.bool false)))]
def r1:=[o 3 (.b9 (k 0))]
def r2:=[m 4 3,m 5 0,o 6 (.len 5),o 7 (.bin .lss 4 6)]
def r4:=[m 10 0,m 11 3,o 12 (.a5 none 1 10 11),o 13 (.ld false 1 12),o 14 (.len 13),m 15 0,o 16 (.len 15),o 17 (.bin .neq 14 16)]
def r5:=[o 2 (.b9 (.c (.bool false)))]
def r3:=[m 8 3,o 9 (.bin .add 8 (k 1)),m 3 9]
def r6:=[m 18 0,o 19 (.len 18),o 20 (.bin .leq 19 (k 16)),m 2 20]
def l1:=(s (s (d r2 [4,5,6]) (i 7 .skip (x 0))) (s (b 1 (s (d r4 [7,10,11,12,13,14,15,16]) (i 17 (s (d r5 [0,3,17]) .ret) .skip))) (d r3 [8,9,17])))
def c:=(s (d r0 [2]) (s (s (p r1) (b 0 (w l1))) (s (d r6 [0,3,7,18,19,20]) .ret)))
end WG
def WG:AFn:=⟨1,WG.c,[.tmp 2],false⟩
namespace WF
def r0:=[o 2 (.alloc 2 [(.bool false),.nil,.nil])]
def r1:=[o 5 (.call 124 [(k 0)]),o 3 (.alloc 3 [(.bool false),.nil,.nil]),n (.st 3 3 5)]
def r2:=[o 4 (.b9 (k 0))]
def r3:=[m 6 4,m 7 0,o 8 (.len 7),o 9 (.bin .lss 6 8)]
def r5:=[o 12 (.ld true 3 3),m 13 0,m 14 4,o 15 (.a5 none 3 13 14),o 16 (.ld true 3 15),o 17 (.call 309 [16]),o 18 (.call 126 [12,17]),n (.st 3 3 18)]
def r4:=[m 10 4,o 11 (.bin .add 10 (k 1)),m 4 11]
def r6:=[o 19 (.ld true 3 3),n (.st 3 2 19)]
def l1:=(s (s (d r3 [6,7,8]) (i 9 .skip (x 0))) (s (b 1 (e r5 [9,12,13,14,15,16,17,18])) (d r4 [10,11])))
def c:=(s (p r0) (s (d r1 [5]) (s (s (p r2) (b 0 (w l1))) (s (d r6 [0,3,4,9,19]) .ret))))
end WF
def WF:AFn:=⟨1,WF.c,[.cell 2 true 3],false⟩
namespace WH
def r0:=[o 2 (.b9 (.c .nil))]
def r1:=[m 8 0,o 9 (.len 8),o 10 (.mk 10 1 24 [.nil] 9 9),m 3 10]
def r2:=[o 4 (.b9 (k 0))]
def r3:=[m 11 4,m 12 0,o 13 (.len 12),o 14 (.bin .lss 11 13)]
def r5:=[o 5 (.b9 (k 0))]
def r6:=[m 17 5,m 18 0,o 19 (.len 18),o 20 (.bin .lss 17 19)]
def r8:=[o 23 (.call 124 [(k 0)]),o 6 (.alloc 6 [(.bool false),.nil,.nil]),n (.st 3 6 23)]
def r9:=[o 7 (.b9 (k 0))]
def BM:=[m 24 7,m 25 0,o 26 (.len 25),o 27 (.bin .lss 24 26)]
def w4:=[o 30 (.ld true 3 6),m 31 0,m 32 4,o 33 (.a5 none 1 31 32),o 34 (.ld false 1 33),m 35 7,o 36 (.a5 none 3 34 35),o 37 (.ld true 3 36),m 38 0,m 39 7,
 o 40 (.a5 none 1 38 39),o 41 (.ld false 1 40),m 42 5,o 43 (.a5 none 3 41 42),o 44 (.ld true 3 43),o 45 (.call 128 [37,44]),
 o 46 (.call 126 [30,45]),n (.st 3 6 46)]
def BZ:=[m 28 7,o 29 (.bin .add 28 (k 1)),m 7 29]
def CD:=[m 47 3,m 48 4,m 49 3,m 50 4,o 51 (.a5 none 1 49 50),q 52 [54] (.ld false 1 51),o 53 (.ld true 3 6),o 54 (.g8 54 3 [53]),
 o 55 (.app 55 3 56 52 54),o 56 (.a5 none 1 47 48),n (.st 1 56 55)]
def r7:=[m 21 5,o 22 (.bin .add 21 (k 1)),m 5 22]
def r4:=[m 15 4,o 16 (.bin .add 15 (k 1)),m 4 16]
def ay:=[m 57 3,m 2 57]
def l3:=(s (s (d BM [24,25,26]) (i 27 .skip (x 4))) (s (b 5 (e w4 [27,30,31,32,33,34,35,36,37,38,39,40,41,42,43,44,45,46])) (d BZ [28,29])))
def l2:=(s (s (d r6 [17,18,19]) (i 20 .skip (x 2))) (s (b 3 (s (d r8 [20,23]) (s (s (p r9) (b 4 (w l3))) (e CD [6,7,27,47,48,49,50,51,52,53,54,55,56])))) (d r7 [21,22])))
def l1:=(s (s (d r3 [11,12,13]) (i 14 .skip (x 0))) (s (b 1 (s (d r5 [14]) (b 2 (w l2)))) (d r4 [5,15,16,20])))
def c:=(s (d r0 [2]) (s (d r1 [8,9,10]) (s (s (p r2) (b 0 (w l1))) (s (d ay [0,3,4,14,57]) .ret))))
end WH
def WH:AFn:=⟨1,WH.c,[.tmp 2],false⟩
namespace WE
def r0:=[o 2 (.b9 (k 0)),o 3 (.b9 (k 0))]
def r1:=[m 7 0,o 8 (.call 310 [7]),o 9 (.un .not 8)]
def r2:=[o 2 (.b9 (k 0)),o 3 (.b9 (k 2))]
def r3:=[o 4 (.b9 (k 1))]
def r4:=[m 10 4,o 11 (.bin .leq 10 (k 64))]
def r6:=[o 5 (.b9 (.c (.bool true)))]
def r7:=[o 6 (.b9 (k 0))]
def r8:=[m 14 6,m 15 0,o 16 (.len 15),o 17 (.bin .lss 14 16)]
def BM:=[m 20 5,m 21 20,g 22 21 true (.b9 0),g 23 21 true (.b9 6),g 24 21 true (.a5 none 1 22 23),g 25 21 true (.ld false 1 24),g 26 21 true (.call 311 [25]),
 g 27 21 true (.call 125 [(k 1),(k 2)]),g 28 21 true (.call 127 [26,27]),g 29 21 true (.bin .leq 28 (k 0)),o 30 (.pick 21 29 (.c (.bool false))),m 5 30]
def r9:=[m 18 6,o 19 (.bin .add 18 (k 1)),m 6 19]
def BZ:=[m 31 5]
def w4:=[m 32 4,m 2 32,o 3 (.b9 (k 0))]
def CD:=[m 33 0,o 34 (.call 313 [33]),m 0 34]
def r5:=[m 12 4,o 13 (.bin .mul (k 2) 12),m 4 13]
def ay:=[o 2 (.b9 (k 0)),o 3 (.b9 (k 14))]
def l2:=(s (s (d r8 [14,15,16]) (i 17 .skip (x 2))) (s (b 3 (d BM [17,20,21,22,23,24,25,26,27,28,29,30])) (d r9 [18,19])))
def l1:=(s (s (d r4 [10]) (i 11 .skip (x 0))) (s (b 1 (s (d r6 [11]) (s (s (p r7) (b 2 (w l2))) (s (s (d BZ [5,6,17]) (i 31 (s (d w4 [0,4,31,32]) .ret) .skip)) (d CD [31,33,34]))))) (d r5 [12,13])))
def c:=(s (d r0 [2,3]) (s (s (d r1 [7,8]) (i 9 (s (d r2 [0,9]) .ret) .skip)) (s (s (d r3 [9]) (b 0 (w l1))) (s (d ay [0,4,11]) .ret))))
end WE
def WE:AFn:=⟨1,WE.c,[.tmp 2,.tmp 3],false⟩
structure eo (L:Lib):Prop extends q7 L where
 VN:L 308=some F.VN
 VY:L 309=some F.VY
 WG:L 310=some F.WG
 WF:L 311=some F.WF
 WH:L 313=some F.WH
 WE:L 314=some F.WE
end Go.e8.F

namespace Go.e8.F
open C
namespace WQ
def r0:=[o 4 (.b9 (.c .nil))]
def r1:=[m 5 1,o 6 (.bin .lss 5 (k 0))]
def r2:=[o 7 (.bad),n (.bad)]
def r3:=[m 8 1,m 9 0,o 10 (.gf 9),m 11 0,o 12 (.len 11),o 13 (.bin .sub 10 12),o 14 (.bin .sub 8 13),m 1 14]
def r4:=[m 15 1,o 16 (.bin .gtr 15 (k 0))]
def r5:=[m 17 0,m 18 0,o 19 (.gf 18),o 20 (.jq 3 17 none (some 19)),m 21 1,o 22 (.pz 227022 3 56 20 21),m 23 0,o 24 (.len 23),
 o 25 (.jq 3 22 none (some 24)),m 0 25]
def r6:=[m 26 0,m 4 26]
def c:=(s (d r0 [4]) (s (s (d r1 [5]) (i 6 (d r2 [6,7]) .skip)) (s (s (d r3 [6,8,9,10,11,12,13,14]) (s (d r4 [15]) (i 16 (d r5 [1,16,17,18,19,20,21,22,23,24,25]) .skip))) (s (d r6 [0,1,16,26]) .ret))))
end WQ
def WQ:AFn:=⟨2,WQ.c,[.tmp 4],false⟩
namespace WP
def r0:=[o 2 (.b9 (.c .nil))]
def r1:=[o 3 (.b9 (k 0))]
def r2:=[m 9 0,o 10 (.len 9),o 11 (.b9 (k 0))]
def r3:=[o 12 (.bin .lss 11 10)]
def r4:=[o 13 (.a5 none 1 9 11),o 14 (.ld false 1 13),m 5 14]
def r5:=[m 15 3,m 16 5,o 17 (.len 16),o 18 (.bin .add 15 17),m 3 18]
def r6:=[m 19 3,o 20 (.bin .lss 19 (k 0))]
def r7:=[o 21 (.bad),n (.bad)]
def r8:=[o 22 (.bin .add 11 (k 1)),m 11 22]
def r9:=[m 23 3,o 24 (.j7 227 [(.c .nil),23]),m 6 24]
def BM:=[m 25 0,o 26 (.len 25),o 27 (.b9 (k 0))]
def BZ:=[o 28 (.bin .lss 27 26)]
def w4:=[o 29 (.a5 none 1 25 27),o 30 (.ld false 1 29),m 8 30]
def CD:=[m 31 6,m 32 8,o 33 (.app 33 3 56 31 32),m 6 33]
def ay:=[o 34 (.bin .add 27 (k 1)),m 27 34]
def ct:=[m 35 6,m 2 35]
def l1:=(s (p r3) (s (i 12 .skip (x 0)) (s (b 1 (s (d r4 [12,13,14]) (s (d r5 [5,15,16,17,18]) (s (d r6 [19]) (i 20 (d r7 [20,21]) .skip))))) (d r8 [20,22]))))
def l2:=(s (p BZ) (s (i 28 .skip (x 2)) (s (b 3 (s (d w4 [28,29,30]) (d CD [8,31,32,33]))) (d ay [34]))))
def c:=(s (d r0 [2]) (s (p r1) (s (s (p r2) (b 0 (w l1))) (s (d r9 [3,9,10,11,12,23,24]) (s (s (d BM [0]) (b 2 (w l2))) (s (d ct [6,25,26,27,28,35]) .ret))))))
end WP
def WP:AFn:=⟨1,WP.c,[.tmp 2],false⟩
namespace TM
def r0:=[o 2 (.b9 (.c (.bool false)))]
def r1:=[m 6 0,o 7 (.len 6),o 8 (.bin .lss 7 (k 1)),m 9 8,g 10 9 false (.b9 0),g 11 9 false (.len 10),g 12 9 false (.bin .gtr 11 (k 52)),
 o 13 (.pick 9 (.c (.bool true)) 12)]
def r2:=[o 2 (.b9 (.c (.bool false)))]
def r3:=[m 14 0,o 15 (.a5 none 1 14 (k 0)),o 16 (.ld false 1 15),o 17 (.len 16),m 3 17]
def r4:=[m 18 0,o 19 (.len 18),o 20 (.b9 (k 0))]
def r5:=[o 21 (.bin .lss 20 19)]
def r6:=[o 22 (.a5 none 1 18 20),o 23 (.ld false 1 22),m 5 23]
def r7:=[m 24 5,o 25 (.len 24),m 26 3,o 27 (.bin .neq 25 26)]
def r8:=[o 2 (.b9 (.c (.bool false)))]
def r9:=[o 28 (.bin .add 20 (k 1)),m 20 28]
def BM:=[m 29 3,o 30 (.bin .geq 29 (k 1)),m 31 30,g 32 31 true (.b9 3),g 33 31 true (.bin .leq 32 (k 52)),o 34 (.pick 31 33 (.c (.bool false))),m 2 34]
def l1:=(s (p r5) (s (i 21 .skip (x 0)) (s (b 1 (s (d r6 [21,22,23]) (s (d r7 [5,24,25,26]) (i 27 (s (d r8 [3,18,19,20,27]) .ret) .skip)))) (d r9 [27,28]))))
def c:=(s (d r0 [2]) (s (s (d r1 [6,7,8,9,10,11,12]) (i 13 (s (d r2 [0,13]) .ret) .skip)) (s (d r3 [13,14,15,16,17]) (s (s (d r4 [0]) (b 0 (w l1))) (s (d BM [3,18,19,20,21,29,30,31,32,33,34]) .ret)))))
end TM
def TM:AFn:=⟨1,TM.c,[.tmp 2],false⟩
namespace O7
def r0:=[o 2 (.b9 (.c .nil)),o 3 (.b9 (.c .nil))]
def r1:=[m 14 0,o 15 (.len 14),o 16 (.mk 231016 1 24 [.nil] 15 15),m 17 0,o 18 (.len 17),o 19 (.mk 231019 3 56 [(.bool false),.nil,.nil] 18 18),m 4 16,m 5 19]
def r2:=[m 20 0,o 21 (.len 20),o 22 (.b9 (k 0))]
def r3:=[o 23 (.bin .lss 22 21)]
def r4:=[m 24 22,o 25 (.a5 none 1 20 22),o 26 (.ld false 1 25),m 6 24,m 7 26]
def r5:=[o 27 (.call 96 [(k 1)]),o 8 (.alloc 231008 [(.bool false),.nil,.nil]),n (.st 3 8 27)]
def r6:=[m 28 7,o 29 (.len 28),o 30 (.b9 (k 0))]
def r7:=[o 31 (.bin .lss 30 29)]
def r8:=[o 32 (.a5 none 3 28 30),o 33 (.ld true 3 32),o 10 (.alloc 231010 [(.bool false),.nil,.nil]),n (.st 3 10 33)]
def r9:=[o 34 (.ld true 3 8),o 35 (.ld true 3 10),o 36 (.call 99 [34,35]),o 11 (.alloc 231011 [(.bool false),.nil,.nil]),n (.st 3 11 36)]
def BM:=[o 37 (.ld true 3 8),o 38 (.a7 11 2),o 39 (.ld false 1 38),o 40 (.build [(.bool false),.nil] [(1,1,39)]),o 41 (.g8 231041 1 [(.c (.int .u32 (1)))]),
 o 42 (.build [(.bool false),.nil,.nil] [(0,2,40),(2,1,41)]),o 43 (.call 99 [37,42]),n (.st 3 8 43)]
def BZ:=[o 44 (.bin .add 30 (k 1)),m 30 44]
def w4:=[m 45 4,m 46 6,m 47 7,o 48 (.len 47),o 49 (.mk 231049 3 56 [(.bool false),.nil,.nil] 48 48),o 50 (.a5 none 1 45 46),n (.st 1 50 49)]
def CD:=[m 51 7,o 52 (.len 51),o 53 (.b9 (k 0))]
def ay:=[o 54 (.bin .lss 53 52)]
def ct:=[m 55 53,o 56 (.a5 none 3 51 53),o 57 (.ld true 3 56),o 13 (.alloc 231013 [(.bool false),.nil,.nil]),m 12 55,n (.st 3 13 57)]
def du:=[m 58 4,m 59 6,o 60 (.a5 none 1 58 59),o 61 (.ld false 1 60),m 62 12,o 63 (.ld true 3 13),o 64 (.ld true 3 8),o 65 (.call 99 [63,64]),
 o 66 (.a5 none 3 61 62),n (.st 3 66 65)]
def EA:=[o 67 (.bin .add 53 (k 1)),m 53 67]
def eg:=[m 68 5,m 69 6,o 70 (.ld true 3 8),o 71 (.a5 none 3 68 69),n (.st 3 71 70)]
def fw:=[o 72 (.bin .add 22 (k 1)),m 22 72]
def iq:=[m 73 4,m 74 5,m 2 73,m 3 74]
def l2:=(s (p r7) (s (i 31 .skip (x 2)) (s (b 3 (s (d r8 [31,32,33]) (s (d r9 [10,34,35,36]) (d BM [11,37,38,39,40,41,42,43])))) (d BZ [44]))))
def l3:=(s (p ay) (s (i 54 .skip (x 4)) (s (b 5 (s (d ct [54,55,56,57]) (e du [12,13,58,59,60,61,62,63,64,65,66]))) (d EA [67]))))
def l1:=(s (p r3) (s (i 23 .skip (x 0)) (s (b 1 (s (d r4 [23,24,25,26]) (s (d r5 [27]) (s (s (p r6) (b 2 (w l2))) (s (d w4 [28,29,30,31,45,46,47,48,49,50]) (s (s (d CD [7]) (b 4 (w l3))) (d eg [6,8,51,52,53,54,68,69,70,71]))))))) (d fw [72]))))
def c:=(s (d r0 [2,3]) (s (e r1 [14,15,16,17,18,19]) (s (s (d r2 [0]) (b 0 (w l1))) (s (d iq [4,5,20,21,22,23,73,74]) .ret))))
end O7
def O7:AFn:=⟨1,O7.c,[.tmp 2,.tmp 3],false⟩
namespace TQ
def r0:=[o 7 (.box 900007 3)]
def r1:=[m 12 1,m 13 2,o 14 (.a5 none 3 12 13),q 15 [900008,900009] (.ld true 3 14),m 16 0,m 17 2,o 18 (.a5 none 3 16 17),
 q 19 [900008,900009,900008] (.ld true 3 18),o 8 (.alloc 900008 [(.bool false),.nil,.nil]),o 9 (.alloc 900009 [(.bool false),.nil,.nil]),
 n (.px 900008 3 8 15),n (.st 3 9 19)]
def r2:=[m 20 2,m 10 20]
def r3:=[m 21 10,m 22 0,o 23 (.len 22),o 24 (.bin .lss 21 23)]
def r5:=[m 27 0,m 28 10,o 29 (.a5 none 3 27 28),q 30 [900011] (.ld true 3 29),q 31 [900011] (.ld true 3 8),
 q 32 [900011] (.call 99 [30,31]),m 33 1,m 34 10,o 35 (.a5 none 3 33 34),q 36 [900011] (.ld true 3 35),
 q 37 [900011] (.ld true 3 9),q 38 [900011] (.call 99 [36,37]),q 39 [900011] (.call 150 [32,38]),
 o 11 (.alloc 900011 [(.bool false),.nil,.nil]),n (.st 3 11 39)]
def r6:=[m 41 0,m 42 10,o 43 (.ld true 3 11),o 44 (.ld true 3 7),o 45 (.call 100 [43,44]),m 40 45,o 46 (.ext 40 0),o 47 (.ext 40 1),o 48 (.a5 none 3 41 42),
 n (.st 3 48 46)]
def r4:=[m 25 10,o 26 (.bin .add 25 (k 1)),m 10 26]
def l1:=(s (s (d r3 [21,22,23]) (i 24 .skip (x 0))) (s (b 1 (s (e r5 [24,27,28,29,30,31,32,33,34,35,36,37,38,39]) (d r6 [11,40,41,42,43,44,45,46,47,48]))) (d r4 [25,26])))
def c:=(s (d r0 [3]) (s (e r1 [12,13,14,15,16,17,18,19]) (s (d r2 [2,20]) (b 0 (w l1)))))
end TQ
def TQ:AFn:=⟨4,TQ.c,[],false⟩
namespace O6
def r0:=[o 4 (.b9 (k 0)),o 5 (.alloc 233005 [(.bool false),.nil,.nil]),o 6 (.b9 (.c (.bool false)))]
def r1:=[o 7 (.b9 (k 0)),o 8 (.b9 (k 0)),o 9 (.b9 (.c (.bool false)))]
def r2:=[o 13 (.call 96 [(k 1)]),o 10 (.alloc 233010 [(.bool false),.nil,.nil]),n (.st 3 10 13)]
def r3:=[m 14 7,m 15 0,o 16 (.len 15),o 17 (.bin .lss 14 16)]
def r4:=[m 18 8,m 19 1,o 20 (.bin .lss 18 19)]
def r6:=[m 23 7,m 11 23]
def r7:=[m 24 11,m 25 0,o 26 (.len 25),o 27 (.bin .lss 24 26)]
def r9:=[m 30 0,m 31 11,o 32 (.a5 none 1 30 31),o 33 (.ld false 1 32),m 34 8,o 35 (.a5 none 3 33 34),o 36 (.ld true 3 35),o 37 (.call 97 [36]),
 o 38 (.bin .neq 37 (k 0))]
def BM:=[m 39 11,m 40 7,o 41 (.bin .neq 39 40)]
def BZ:=[m 42 0,m 43 11,m 44 0,m 45 7,m 46 0,m 47 7,o 48 (.a5 none 1 46 47),o 49 (.ld false 1 48),m 50 0,m 51 11,o 52 (.a5 none 1 50 51),
 o 53 (.ld false 1 52),o 54 (.a5 none 1 42 43),n (.st 1 54 49),o 55 (.a5 none 1 44 45),n (.st 1 55 53)]
def w4:=[m 56 9,o 57 (.un .not 56),m 9 57]
def r8:=[m 28 11,o 29 (.bin .add 28 (k 1)),m 11 29]
def r5:=[m 21 8,o 22 (.bin .add 21 (k 1)),m 8 22]
def CD:=[m 58 8,m 59 1,o 60 (.bin .geq 58 59)]
def ay:=[m 61 7,o 62 (.bin .add 61 (k 1)),m 12 62]
def ct:=[m 63 12,m 64 0,o 65 (.len 64),o 66 (.bin .lss 63 65)]
def EA:=[m 69 0,m 70 12,o 71 (.a5 none 1 69 70),o 72 (.ld false 1 71),m 73 0,m 74 7,o 75 (.a5 none 1 73 74),o 76 (.ld false 1 75),m 77 8,
 o 78 (.ld true 3 10),o 79 (.j7 900 [72,76,77,78])]
def du:=[m 67 12,o 68 (.bin .add 67 (k 1)),m 12 68]
def eg:=[m 80 0,m 81 7,o 82 (.a5 none 1 80 81),o 83 (.ld false 1 82),m 84 8,o 85 (.a5 none 3 83 84),o 86 (.ld true 3 85),n (.st 3 10 86)]
def fw:=[m 87 7,o 88 (.bin .add 87 (k 1)),m 7 88]
def iq:=[m 89 8,o 90 (.bin .add 89 (k 1)),m 8 90]
def lu:=[m 91 7,o 92 (.ld true 3 10),m 93 9,m 4 91,n (.st 3 5 92),m 6 93]
def l3:=(s (s (d r7 [24,25,26]) (i 27 .skip (x 4))) (s (b 5 (s (d r9 [27,30,31,32,33,34,35,36,37]) (i 38 (s (s (d BM [38,39,40]) (i 41 (s (e BZ [11,41,42,43,44,45,46,47,48,49,50,51,52,53,54,55]) (d w4 [56,57])) .skip)) (x 2)) .skip))) (d r8 [28,29,38])))
def l2:=(s (s (d r4 [17,18,19]) (i 20 .skip (x 2))) (s (b 3 (s (d r6 [20,23]) (b 4 (w l3)))) (d r5 [11,21,22,27])))
def l4:=(s (s (d ct [63,64,65]) (i 66 .skip (x 6))) (s (b 7 (e EA [66,69,70,71,72,73,74,75,76,77,78,79])) (d du [67,68])))
def l1:=(s (s (d r3 [14,15,16]) (i 17 .skip (x 0))) (b 1 (.scope (s .skip (s (b 2 (w l2)) (s (s (d CD [11,20,41,58,59]) (i 60 (x 0) .skip)) (s (s (d ay [60,61,62]) (b 6 (w l4))) (s (d eg [12,66,80,81,82,83,84,85,86]) (s (d fw [87,88]) (d iq [89,90]))))))))))
def c:=(s (d r0 [4,6]) (s (p r1) (s (d r2 [13]) (s (b 0 (w l1)) (s (e lu [0,1,7,8,9,10,17,60,91,92,93]) .ret)))))
end O6
def O6:AFn:=⟨2,O6.c,[.tmp 4,.cell 5 true 3,.tmp 6],false⟩
namespace TN
def r0:=[o 5 (.box 5 2),o 6 (.b9 (.c .nil))]
def r1:=[m 11 0,o 12 (.len 11),o 13 (.mk 13 3 56 [(.bool false),.nil,.nil] 12 12),m 7 13]
def r2:=[m 14 0,o 15 (.len 14),o 16 (.bin .sub 15 (k 1)),m 8 16]
def r3:=[m 17 8,o 18 (.bin .geq 17 (k 0))]
def r5:=[m 21 0,m 22 8,o 23 (.a5 none 1 21 22),q 24 [9] (.ld false 1 23),m 25 1,o 26 (.a5 none 3 24 25),q 27 [9] (.ld true 3 26),
 q 28 [9] (.ld true 3 5),q 29 [9] (.call 99 [27,28]),o 9 (.alloc 9 [(.bool false),.nil,.nil]),n (.st 3 9 29)]
def r6:=[m 30 8,o 31 (.bin .add 30 (k 1)),m 10 31]
def r7:=[m 32 10,m 33 0,o 34 (.len 33),o 35 (.bin .lss 32 34)]
def r9:=[o 38 (.ld true 3 9),m 39 0,m 40 8,o 41 (.a5 none 1 39 40),o 42 (.ld false 1 41),m 43 10,o 44 (.a5 none 3 42 43),o 45 (.ld true 3 44),m 46 7,
 m 47 10,o 48 (.a5 none 3 46 47),o 49 (.ld true 3 48),o 50 (.call 99 [45,49]),o 51 (.call 150 [38,50]),n (.st 3 9 51)]
def r8:=[m 36 10,o 37 (.bin .add 36 (k 1)),m 10 37]
def BM:=[m 53 7,m 54 8,o 55 (.ld true 3 9),m 56 0,m 57 8,o 58 (.a5 none 1 56 57),o 59 (.ld false 1 58),m 60 8,o 61 (.a5 none 3 59 60),o 62 (.ld true 3 61),
 o 63 (.call 100 [55,62]),m 52 63,o 64 (.ext 52 0),o 65 (.ext 52 1),o 66 (.a5 none 3 53 54),n (.st 3 66 64)]
def r4:=[m 19 8,o 20 (.bin .sub 19 (k 1)),m 8 20]
def BZ:=[m 67 7,m 6 67]
def l2:=(s (s (d r7 [32,33,34]) (i 35 .skip (x 2))) (s (b 3 (e r9 [35,38,39,40,41,42,43,44,45,46,47,48,49,50,51])) (d r8 [36,37])))
def l1:=(s (s (d r3 [17]) (i 18 .skip (x 0))) (s (b 1 (s (e r5 [18,21,22,23,24,25,26,27,28,29]) (s (s (d r6 [30,31]) (b 2 (w l2))) (e BM [9,10,35,52,53,54,55,56,57,58,59,60,61,62,63,64,65,66])))) (d r4 [19,20])))
def c:=(s (d r0 [2,6]) (s (d r1 [11,12,13]) (s (s (d r2 [14,15,16]) (b 0 (w l1))) (s (d BZ [0,1,5,7,8,18,67]) .ret))))
end TN
def TN:AFn:=⟨3,TN.c,[.tmp 6],false⟩
namespace TP
def r0:=[o 4 (.b9 (.c .nil)),o 5 (.b9 (k 0))]
def r1:=[m 19 0,o 20 (.len 19),m 6 20]
def r2:=[m 21 6,o 22 (.mk 22 1 24 [.nil] 21 21),m 7 22]
def r3:=[m 23 7,o 24 (.len 23),o 25 (.b9 (k 0))]
def r4:=[o 26 (.bin .lss 25 24)]
def r5:=[m 27 25,m 8 27]
def r6:=[m 28 7,m 29 8,m 30 0,m 31 8,o 32 (.a5 none 1 30 31),o 33 (.ld false 1 32),m 34 1,m 35 8,o 36 (.a5 none 1 34 35),o 37 (.ld false 1 36),
 o 38 (.g8 38 1 [33,37]),o 39 (.call 228 [38]),o 40 (.a5 none 1 28 29),n (.st 1 40 39)]
def r7:=[o 41 (.bin .add 25 (k 1)),m 25 41]
def r8:=[m 43 7,o 44 (.j7 231 [43]),m 42 44,o 45 (.ext 42 0),o 46 (.ext 42 1),m 9 45,m 10 46]
def r9:=[m 48 9,m 49 6,o 50 (.j7 233 [48,49]),m 47 50,o 51 (.ext 47 0),o 52 (.ext 47 1),o 53 (.ext 47 2),o 12 (.alloc 12 [(.bool false),.nil,.nil]),
 m 11 51,n (.st 3 12 52),m 13 53]
def BM:=[m 54 11,m 55 6,o 56 (.bin .lss 54 55)]
def BZ:=[o 4 (.b9 (.c .nil)),o 5 (.b9 (k 11))]
def w4:=[m 57 6,o 58 (.mk 58 1 24 [.nil] 57 57),m 14 58]
def CD:=[m 59 14,o 60 (.len 59),o 61 (.b9 (k 0))]
def ay:=[o 62 (.bin .lss 61 60)]
def ct:=[m 63 61,m 15 63]
def du:=[m 64 14,m 65 15,m 66 1,m 67 15,o 68 (.a5 none 1 66 67),o 69 (.ld false 1 68),o 70 (.len 69),o 71 (.mk 71 3 56 [(.bool false),.nil,.nil] 70 70),
 o 72 (.a5 none 1 64 65),n (.st 1 72 71)]
def EA:=[o 73 (.bin .add 61 (k 1)),m 61 73]
def eg:=[m 74 1,o 75 (.a5 none 1 74 (k 0)),o 76 (.ld false 1 75),o 77 (.len 76),o 78 (.b9 (k 0))]
def fw:=[o 79 (.bin .lss 78 77)]
def iq:=[m 80 78,m 16 80]
def lu:=[m 81 9,m 82 6,m 83 16,o 84 (.bin .add 82 83),o 85 (.ld true 3 12),o 86 (.call 234 [81,84,85]),o 87 (.len 86),o 88 (.b9 (k 0))]
def nf:=[o 89 (.bin .lss 88 87)]
def oh:=[m 90 88,o 91 (.a5 none 3 86 88),o 92 (.ld true 3 91),o 18 (.alloc 18 [(.bool false),.nil,.nil]),m 17 90,n (.st 3 18 92)]
def JL:=[m 94 14,m 95 17,o 96 (.a5 none 1 94 95),o 97 (.ld false 1 96),m 98 16,o 99 (.ld true 3 18),o 100 (.ld true 3 12),o 101 (.call 100 [99,100]),m 93 101,
 o 102 (.ext 93 0),o 103 (.ext 93 1),o 104 (.a5 none 3 97 98),n (.st 3 104 102)]
def NY:=[o 105 (.bin .add 88 (k 1)),m 88 105]
def U1:=[o 106 (.bin .add 78 (k 1)),m 78 106]
def U2:=[m 107 14,m 4 107,o 5 (.b9 (k 0))]
def l1:=(s (p r4) (s (i 26 .skip (x 0)) (s (b 1 (s (d r5 [26,27]) (e r6 [8,28,29,30,31,32,33,34,35,36,37,38,39,40]))) (d r7 [41]))))
def l2:=(s (p ay) (s (i 62 .skip (x 2)) (s (b 3 (s (d ct [62,63]) (d du [15,64,65,66,67,68,69,70,71,72]))) (d EA [73]))))
def l4:=(s (p nf) (s (i 89 .skip (x 6)) (s (b 7 (s (d oh [89,90,91,92]) (e JL [17,18,93,94,95,96,97,98,99,100,101,102,103,104]))) (d NY [105]))))
def l3:=(s (p fw) (s (i 79 .skip (x 4)) (s (b 5 (s (d iq [79,80]) (s (d lu [81,82,83,84,85]) (b 6 (w l4))))) (d U1 [16,86,87,88,89,106]))))
def c:=(s (d r0 [4,5]) (s (d r1 [19,20]) (s (d r2 [21,22]) (s (s (d r3 [23]) (b 0 (w l1))) (s (d r8 [0,7,10,24,25,26,42,43,44,45,46]) (s (d r9 [13,47,48,49,50,51,52,53]) (s (s (d BM [11,54,55]) (i 56 (s (d BZ [1,6,9,12,56]) .ret) .skip)) (s (d w4 [56,57,58]) (s (s (d CD [59]) (b 2 (w l2))) (s (s (d eg [1,60,61,62,74,75,76]) (b 4 (w l3))) (s (d U2 [6,9,12,14,77,78,79,107]) .ret)))))))))))
end TP
def TP:AFn:=⟨2,TP.c,[.tmp 4,.tmp 5],false⟩
namespace TL
def r0:=[o 4 (.b9 (.c .nil)),o 5 (.b9 (k 0))]
def r1:=[m 13 0,o 14 (.call 229 [13]),o 15 (.un .not 14)]
def r2:=[o 4 (.b9 (.c .nil)),o 5 (.b9 (k 2))]
def r3:=[m 16 0,o 17 (.a5 none 1 16 (k 0)),o 18 (.ld false 1 17),o 19 (.len 18),m 20 0,o 21 (.len 20),o 22 (.bin .neq 19 21),m 23 22,g 24 23 false (.b9 1),
 g 25 23 false (.len 24),g 26 23 false (.b9 0),g 27 23 false (.len 26),g 28 23 false (.bin .neq 25 27),o 29 (.pick 23 (.c (.bool true)) 28)]
def r4:=[o 4 (.b9 (.c .nil)),o 5 (.b9 (k 1))]
def r5:=[m 30 1,o 31 (.len 30),o 32 (.mk 32 1 24 [.nil] 31 31),m 6 32]
def r6:=[m 33 1,o 34 (.len 33),o 35 (.b9 (k 0))]
def r7:=[o 36 (.bin .lss 35 34)]
def r8:=[m 37 35,o 38 (.a5 none 3 33 35),o 39 (.ld true 3 38),o 8 (.alloc 8 [(.bool false),.nil,.nil]),m 7 37,n (.st 3 8 39)]
def r9:=[m 40 6,m 41 7,o 42 (.ld true 3 8),o 43 (.g8 43 3 [42]),o 44 (.a5 none 1 40 41),n (.st 1 44 43)]
def BM:=[o 45 (.bin .add 35 (k 1)),m 35 45]
def BZ:=[m 47 0,m 48 6,o 49 (.call 235 [47,48]),m 46 49,o 50 (.ext 46 0),o 51 (.ext 46 1),m 9 50,m 10 51]
def w4:=[m 52 10,o 53 (.bin .neq 52 (k 0))]
def CD:=[m 54 10,o 4 (.b9 (.c .nil)),m 5 54]
def ay:=[m 55 9,o 56 (.len 55),o 57 (.mk 57 3 56 [(.bool false),.nil,.nil] 56 56),m 11 57]
def ct:=[m 58 9,o 59 (.len 58),o 60 (.b9 (k 0))]
def du:=[o 61 (.bin .lss 60 59)]
def EA:=[m 62 60,m 12 62]
def eg:=[m 63 11,m 64 12,m 65 9,m 66 12,o 67 (.a5 none 1 65 66),o 68 (.ld false 1 67),o 69 (.a5 none 3 68 (k 0)),o 70 (.ld true 3 69),
 o 71 (.a5 none 3 63 64),n (.st 3 71 70)]
def fw:=[o 72 (.bin .add 60 (k 1)),m 60 72]
def iq:=[m 73 11,m 4 73,o 5 (.b9 (k 0))]
def l1:=(s (p r7) (s (i 36 .skip (x 0)) (s (b 1 (s (d r8 [36,37,38,39]) (d r9 [7,8,40,41,42,43,44]))) (d BM [45]))))
def l2:=(s (p du) (s (i 61 .skip (x 2)) (s (b 3 (s (d EA [61,62]) (d eg [12,63,64,65,66,67,68,69,70,71]))) (d fw [72]))))
def c:=(s (d r0 [4,5]) (s (s (d r1 [13,14]) (i 15 (s (d r2 [0,1,15]) .ret) .skip)) (s (s (d r3 [15,16,17,18,19,20,21,22,23,24,25,26,27,28]) (i 29 (s (d r4 [0,1,29]) .ret) .skip)) (s (d r5 [29,30,31,32]) (s (s (d r6 [1]) (b 0 (w l1))) (s (d BZ [0,6,33,34,35,36,46,47,48,49,50,51]) (s (s (d w4 [52]) (i 53 (s (d CD [9,10,53,54]) .ret) .skip)) (s (d ay [10,53,55,56,57]) (s (s (d ct [58]) (b 2 (w l2))) (s (d iq [9,11,59,60,61,73]) .ret))))))))))
end TL
def TL:AFn:=⟨2,TL.c,[.tmp 4,.tmp 5],false⟩
structure ah (L:Lib):Prop extends w6 L,q7 L where
 WQ:L 227=some F.WQ
 WP:L 228=some F.WP
 TM:L 229=some F.TM
 O7:L 231=some F.O7
 TQ:L 900=some F.TQ
 O6:L 233=some F.O6
 TN:L 234=some F.TN
 TP:L 235=some F.TP
 TL:L 237=some F.TL
end Go.e8.F

namespace Go.e8.F
open C
namespace WA
def r0:=[o 2 (.b9 (.c (.bool false)))]
def r1:=[m 5 0,o 6 (.len 5),o 7 (.bin .lss 6 (k 1)),m 8 7,g 9 8 false (.b9 0),g 10 8 false (.len 9),g 11 8 false (.bin .gtr 10 (k 52)),
 o 12 (.pick 8 (.c (.bool true)) 11),m 13 12,g 14 13 false (.b9 0),g 15 13 false (.a5 none 1 14 (k 0)),g 16 13 false (.ld false 1 15),
 g 17 13 false (.len 16),g 18 13 false (.bin .lss 17 (k 1)),o 19 (.pick 13 (.c (.bool true)) 18),m 20 19,g 21 20 false (.b9 0),
 g 22 20 false (.a5 none 1 21 (k 0)),g 23 20 false (.ld false 1 22),g 24 20 false (.len 23),g 25 20 false (.bin .gtr 24 (k 52)),
 o 26 (.pick 20 (.c (.bool true)) 25)]
def r2:=[o 2 (.b9 (.c (.bool false)))]
def r3:=[m 27 0,o 28 (.len 27),o 29 (.b9 (k 0))]
def r4:=[o 30 (.bin .lss 29 28)]
def r5:=[o 31 (.a5 none 1 27 29),o 32 (.ld false 1 31),m 4 32]
def r6:=[m 33 4,o 34 (.len 33),m 35 0,o 36 (.a5 none 1 35 (k 0)),o 37 (.ld false 1 36),o 38 (.len 37),o 39 (.bin .neq 34 38)]
def r7:=[o 2 (.b9 (.c (.bool false)))]
def r8:=[o 40 (.bin .add 29 (k 1)),m 29 40]
def r9:=[o 2 (.b9 (.c (.bool true)))]
def l1:=(s (p r4) (s (i 30 .skip (x 0)) (s (b 1 (s (d r5 [30,31,32]) (s (d r6 [4,33,34,35,36,37,38]) (i 39 (s (d r7 [0,27,28,29,39]) .ret) .skip)))) (d r8 [39,40]))))
def c:=(s (d r0 [2]) (s (s (d r1 [5,6,7,8,9,10,11,12,13,14,15,16,17,18,19,20,21,22,23,24,25]) (i 26 (s (d r2 [0,26]) .ret) .skip)) (s (s (d r3 [26]) (b 0 (w l1))) (s (d r9 [0,27,28,29,30]) .ret))))
end WA
def WA:AFn:=⟨1,WA.c,[.tmp 2],false⟩
structure jv (L:Lib):Prop extends u9 L where
 WA:L 239=some F.WA
end Go.e8.F

namespace Go.e8.F
open C
namespace V6
def r0:=[o 2 (.box 2 0),o 3 (.box 3 1),o 4 (.alloc 4 [(.bool false),.nil,.nil])]
def r1:=[o 8 (.ld true 3 2),o 9 (.ld true 3 3),o 10 (.call 154 [8,9]),m 7 10,o 11 (.ext 7 0),o 12 (.ext 7 1),o 5 (.alloc 5 [(.bool false),.nil,.nil]),
 n (.st 3 5 11),m 6 12]
def r2:=[m 13 6,o 14 (.bin .neq 13 (k 0))]
def r3:=[o 15 (.call 124 [(k 0)]),n (.st 3 4 15)]
def r4:=[o 16 (.ld true 3 5),n (.st 3 4 16)]
def c:=(s (d r0 [0,1]) (s (d r1 [2,3,7,8,9,10,11,12]) (s (s (d r2 [6,13]) (i 14 (s (d r3 [5,14,15]) .ret) .skip)) (s (d r4 [5,14,16]) .ret))))
end V6
def V6:AFn:=⟨2,V6.c,[.cell 4 true 3],false⟩
namespace WC
def r0:=[o 2 (.b9 (.c .nil))]
def r1:=[o 3 (.ag 277003 1)]
def r2:=[m 9 0,o 10 (.len 9),o 11 (.b9 (k 0))]
def r3:=[o 12 (.bin .lss 11 10)]
def r4:=[o 13 (.a5 none 1 9 11),o 14 (.ld false 1 13),m 5 14]
def r5:=[o 6 (.ag 277006 3)]
def r6:=[m 15 5,o 16 (.len 15),o 17 (.b9 (k 0))]
def r7:=[o 18 (.bin .lss 17 16)]
def r8:=[o 19 (.a5 none 3 15 17),o 20 (.ld true 3 19),o 8 (.alloc 277008 [(.bool false),.nil,.nil]),n (.st 3 8 20)]
def r9:=[m 21 6,o 22 (.ld true 3 8),o 23 (.call 123 [22]),o 24 (.g8 277024 3 [23]),o 25 (.app 277025 3 56 21 24),m 6 25]
def BM:=[o 26 (.bin .add 17 (k 1)),m 17 26]
def BZ:=[m 27 3,m 28 6,o 29 (.g8 277029 1 [28]),o 30 (.app 277030 1 24 27 29),m 3 30]
def w4:=[o 31 (.bin .add 11 (k 1)),m 11 31]
def CD:=[m 32 3,m 2 32]
def l2:=(s (p r7) (s (i 18 .skip (x 2)) (s (b 3 (s (d r8 [18,19,20]) (d r9 [8,21,22,23,24,25]))) (d BM [26]))))
def l1:=(s (p r3) (s (i 12 .skip (x 0)) (s (b 1 (s (d r4 [12,13,14]) (s (p r5) (s (s (d r6 [5]) (b 2 (w l2))) (d BZ [6,15,16,17,18,27,28,29,30]))))) (d w4 [31]))))
def c:=(s (d r0 [2]) (s (p r1) (s (s (d r2 [0]) (b 0 (w l1))) (s (d CD [3,9,10,11,12,32]) .ret))))
end WC
def WC:AFn:=⟨1,WC.c,[.tmp 2],false⟩
namespace G1
def r0:=[o 4 (.b9 (k 0)),o 5 (.alloc 901005 [(.bool false),.nil,.nil])]
def r1:=[o 15 (.call 124 [(k 1)]),o 7 (.alloc 901007 [(.bool false),.nil,.nil]),o 6 (.b9 (k 0)),n (.st 3 7 15)]
def r2:=[o 8 (.b9 (k 0))]
def r3:=[m 16 8,m 17 1,o 18 (.bin .lss 16 17),m 19 18,g 20 19 true (.b9 6),g 21 19 true (.b9 0),g 22 19 true (.len 21),g 23 19 true (.bin .lss 20 22),
 o 24 (.pick 19 23 (.c (.bool false)))]
def r5:=[m 27 6,m 9 27]
def r6:=[m 28 9,m 29 0,o 30 (.len 29),o 31 (.bin .lss 28 30),m 32 31,g 33 32 true (.b9 0),g 34 32 true (.b9 9),g 35 32 true (.a5 none 1 33 34),
 g 36 32 true (.ld false 1 35),g 37 32 true (.b9 8),g 38 32 true (.a5 none 3 36 37),g 39 32 true (.ld true 3 38),g 40 32 true (.call 155 [39]),
 g 41 32 true (.bin .eql 40 (k 0)),o 42 (.pick 32 41 (.c (.bool false)))]
def r7:=[m 43 9,o 44 (.bin .add 43 (k 1)),m 9 44]
def r8:=[m 45 9,m 46 0,o 47 (.len 46),o 48 (.bin .eql 45 47)]
def r9:=[m 49 9,m 50 6,o 51 (.bin .neq 49 50)]
def BM:=[m 52 0,m 53 9,m 54 0,m 55 6,m 56 0,m 57 6,o 58 (.a5 none 1 56 57),o 59 (.ld false 1 58),m 60 0,m 61 9,o 62 (.a5 none 1 60 61),
 o 63 (.ld false 1 62),o 64 (.a5 none 1 52 53),n (.st 1 64 59),o 65 (.a5 none 1 54 55),n (.st 1 65 63)]
def BZ:=[o 66 (.ld true 3 7),o 67 (.call 152 [66]),n (.st 3 7 67)]
def w4:=[m 68 0,m 69 6,o 70 (.a5 none 1 68 69),o 71 (.ld false 1 70),m 72 8,o 73 (.a5 none 3 71 72),o 74 (.ld true 3 73),
 o 10 (.alloc 901010 [(.bool false),.nil,.nil]),n (.st 3 10 74)]
def CD:=[o 75 (.ld true 3 7),o 76 (.ld true 3 10),o 77 (.call 128 [75,76]),n (.st 3 7 77)]
def ay:=[m 78 0,m 79 6,o 80 (.a5 none 1 78 79),o 81 (.ld false 1 80),o 82 (.len 81),o 83 (.b9 (k 0))]
def ct:=[o 84 (.bin .lss 83 82)]
def du:=[m 85 83,m 11 85]
def EA:=[m 86 0,m 87 6,o 88 (.a5 none 1 86 87),o 89 (.ld false 1 88),m 90 11,m 91 0,m 92 6,o 93 (.a5 none 1 91 92),o 94 (.ld false 1 93),m 95 11,
 o 96 (.a5 none 3 94 95),o 97 (.ld true 3 96),o 98 (.ld true 3 10),o 99 (.call 276 [97,98]),o 100 (.a5 none 3 89 90),n (.st 3 100 99)]
def eg:=[o 101 (.bin .add 83 (k 1)),m 83 101]
def fw:=[m 102 0,o 103 (.len 102),o 104 (.b9 (k 0))]
def iq:=[o 105 (.bin .lss 104 103)]
def lu:=[m 106 104,m 12 106]
def nf:=[m 107 0,m 108 12,o 109 (.a5 none 1 107 108),o 110 (.ld false 1 109),m 111 8,o 112 (.a5 none 3 110 111),o 113 (.ld true 3 112),
 o 13 (.alloc 901013 [(.bool false),.nil,.nil]),n (.st 3 13 113)]
def oh:=[m 114 12,m 115 6,o 116 (.bin .eql 114 115),m 117 116,g 118 117 false (.ld true 3 13),g 119 117 false (.call 155 [118]),
 g 120 117 false (.bin .eql 119 (k 0)),o 121 (.pick 117 (.c (.bool true)) 120)]
def JL:=[m 122 0,m 123 12,o 124 (.a5 none 1 122 123),o 125 (.ld false 1 124),o 126 (.len 125),o 127 (.b9 (k 0))]
def NY:=[o 128 (.bin .lss 127 126)]
def U1:=[m 129 127,m 14 129]
def U2:=[m 130 0,m 131 12,o 132 (.a5 none 1 130 131),o 133 (.ld false 1 132),m 134 14,m 135 0,m 136 12,o 137 (.a5 none 1 135 136),o 138 (.ld false 1 137),
 m 139 14,o 140 (.a5 none 3 138 139),o 141 (.ld true 3 140),o 142 (.ld true 3 13),m 143 0,m 144 6,o 145 (.a5 none 1 143 144),o 146 (.ld false 1 145),
 m 147 14,o 148 (.a5 none 3 146 147),o 149 (.ld true 3 148),o 150 (.call 128 [142,149]),o 151 (.call 153 [141,150]),o 152 (.a5 none 3 133 134),
 n (.st 3 152 151)]
def YW:=[o 153 (.bin .add 127 (k 1)),m 127 153]
def YX:=[o 154 (.bin .add 104 (k 1)),m 104 154]
def Ar:=[m 155 6,o 156 (.bin .add 155 (k 1)),m 6 156]
def r4:=[m 25 8,o 26 (.bin .add 25 (k 1)),m 8 26]
def Cb:=[m 157 6,o 158 (.ld true 3 7),m 4 157,n (.st 3 5 158)]
def l2:=(s (s (d r6 [28,29,30,31,32,33,34,35,36,37,38,39,40,41]) (i 42 .skip (x 2))) (b 3 (d r7 [42,43,44])))
def l3:=(s (p ct) (s (i 84 .skip (x 4)) (s (b 5 (s (d du [84,85]) (e EA [11,86,87,88,89,90,91,92,93,94,95,96,97,98,99,100]))) (d eg [101]))))
def l5:=(s (p NY) (s (i 128 .skip (x 8)) (s (b 9 (s (d U1 [128,129]) (e U2 [14,130,131,132,133,134,135,136,137,138,139,140,141,142,143,144,145,146,147,148,149,150,151,152]))) (d YW [153]))))
def l4:=(s (p iq) (s (i 105 .skip (x 6)) (s (b 7 (s (d lu [105,106]) (s (d nf [107,108,109,110,111,112,113]) (s (s (d oh [114,115,116,117,118,119,120]) (i 121 (x 7) .skip)) (s (d JL [121,122,123,124,125]) (b 8 (w l5))))))) (d YX [12,13,121,126,127,128,154]))))
def l1:=(s (s (d r3 [16,17,18,19,20,21,22,23]) (i 24 .skip (x 0))) (s (b 1 (s (d r5 [24,27]) (s (b 2 (w l2)) (s (s (d r8 [42,45,46,47]) (i 48 (x 1) .skip)) (s (s (d r9 [48,49,50]) (i 51 (s (e BM [9,51,52,53,54,55,56,57,58,59,60,61,62,63,64,65]) (d BZ [66,67])) .skip)) (s (d w4 [9,51,68,69,70,71,72,73,74]) (s (d CD [75,76,77]) (s (s (d ay [78,79,80,81]) (b 4 (w l3))) (s (s (d fw [10,82,83,84,102]) (b 6 (w l4))) (d Ar [103,104,105,155,156])))))))))) (d r4 [9,25,26,48])))
def c:=(s (d r0 [4]) (s (d r1 [15]) (s (s (p r2) (b 0 (w l1))) (s (e Cb [0,1,6,7,8,24,157,158]) .ret))))
end G1
def G1:AFn:=⟨2,G1.c,[.tmp 4,.cell 5 true 3],false⟩
namespace WB
def r0:=[o 4 (.b9 (.c .nil)),o 5 (.b9 (k 0))]
def r1:=[m 15 0,o 16 (.j7 277 [15]),m 6 16]
def r2:=[m 17 6,o 18 (.len 17),o 19 (.b9 (k 0))]
def r3:=[o 20 (.bin .lss 19 18)]
def r4:=[m 21 19,m 7 21]
def r5:=[m 22 6,m 23 7,m 24 6,m 25 7,o 26 (.a5 none 1 24 25),o 27 (.ld false 1 26),m 28 1,m 29 7,o 30 (.a5 none 1 28 29),o 31 (.ld false 1 30),
 o 32 (.app 32 3 56 27 31),o 33 (.a5 none 1 22 23),n (.st 1 33 32)]
def r6:=[o 34 (.bin .add 19 (k 1)),m 19 34]
def r7:=[m 36 6,m 37 0,o 38 (.len 37),o 39 (.j7 901 [36,38]),m 35 39,o 40 (.ext 35 0),o 41 (.ext 35 1),o 9 (.alloc 9 [(.bool false),.nil,.nil]),m 8 40,
 n (.st 3 9 41)]
def r8:=[m 42 8,m 43 0,o 44 (.len 43),o 45 (.bin .lss 42 44)]
def r9:=[o 4 (.b9 (.c .nil)),o 5 (.b9 (k 11))]
def BM:=[o 10 (.ag 10 1)]
def BZ:=[m 46 6,o 47 (.len 46),o 48 (.b9 (k 0))]
def w4:=[o 49 (.bin .lss 48 47)]
def CD:=[m 50 48,m 11 50]
def ay:=[o 12 (.ag 12 3)]
def ct:=[m 51 6,m 52 11,o 53 (.a5 none 1 51 52),o 54 (.ld false 1 53),m 55 0,o 56 (.len 55),o 57 (.jq 3 54 (some 56) none),o 58 (.len 57),o 59 (.b9 (k 0))]
def du:=[o 60 (.bin .lss 59 58)]
def EA:=[o 61 (.a5 none 3 57 59),o 62 (.ld true 3 61),o 14 (.alloc 14 [(.bool false),.nil,.nil]),n (.st 3 14 62)]
def eg:=[m 63 12,o 64 (.ld true 3 14),o 65 (.call 123 [64]),o 66 (.g8 66 3 [65]),o 67 (.app 67 3 56 63 66),m 12 67]
def fw:=[o 68 (.bin .add 59 (k 1)),m 59 68]
def iq:=[m 69 10,m 70 12,o 71 (.g8 71 1 [70]),o 72 (.app 72 1 24 69 71),m 10 72]
def lu:=[o 73 (.bin .add 48 (k 1)),m 48 73]
def nf:=[m 74 10,m 4 74,o 5 (.b9 (k 0))]
def l1:=(s (p r3) (s (i 20 .skip (x 0)) (s (b 1 (s (d r4 [20,21]) (e r5 [7,22,23,24,25,26,27,28,29,30,31,32,33]))) (d r6 [34]))))
def l3:=(s (p du) (s (i 60 .skip (x 4)) (s (b 5 (s (d EA [60,61,62]) (d eg [14,63,64,65,66,67]))) (d fw [68]))))
def l2:=(s (p w4) (s (i 49 .skip (x 2)) (s (b 3 (s (d CD [49,50]) (s (p ay) (s (s (d ct [11,51,52,53,54,55,56]) (b 4 (w l3))) (d iq [12,57,58,59,60,69,70,71,72]))))) (d lu [73]))))
def c:=(s (d r0 [4,5]) (s (d r1 [15,16]) (s (s (d r2 [17]) (b 0 (w l1))) (s (s (d r7 [1,9,18,19,20,35,36,37,38,39,40,41]) (s (d r8 [8,42,43,44]) (i 45 (s (d r9 [0,6,45]) .ret) .skip))) (s (d BM [45]) (s (s (d BZ [46]) (b 2 (w l2))) (s (d nf [0,6,10,47,48,49,74]) .ret)))))))
end WB
def WB:AFn:=⟨2,WB.c,[.tmp 4,.tmp 5],false⟩
structure dj (L:Lib):Prop extends jv L where
 V6:L 276=some F.V6
 WC:L 277=some F.WC
 G1:L 901=some F.G1
 WB:L 278=some F.WB
end Go.e8.F

namespace Go.e8.F
open C
namespace W6
def r0:=[o 4 (.b9 (k 0))]
def r1:=[m 5 1,o 6 (.bin .lss 5 (k 1))]
def r2:=[o 4 (.b9 (k 0))]
def r3:=[m 7 0,m 8 1,o 9 (.bin .rem 7 8),m 0 9]
def r4:=[m 10 0,o 11 (.bin .lss 10 (k 0))]
def r5:=[m 12 0,m 13 1,o 14 (.bin .add 12 13),m 0 14]
def r6:=[m 15 0,m 4 15]
def c:=(s (d r0 [4]) (s (s (d r1 [5]) (i 6 (s (d r2 [0,1,6]) .ret) .skip)) (s (d r3 [6,7,8,9]) (s (s (d r4 [10]) (i 11 (d r5 [1,11,12,13,14]) .skip)) (s (d r6 [0,1,11,15]) .ret)))))
end W6
def W6:AFn:=⟨2,W6.c,[.tmp 4],false⟩
namespace W2
def r0:=[o 4 (.b9 (k 0))]
def r1:=[m 5 1,o 6 (.bin .geq 5 (k 0)),m 7 6,g 8 7 true (.b9 1),g 9 7 true (.b9 0),g 10 7 true (.len 9),g 11 7 true (.bin .lss 8 10),
 o 12 (.pick 7 11 (.c (.bool false)))]
def r2:=[m 13 0,m 14 1,o 15 (.a5 none 1 13 14),o 16 (.ld false 1 15),m 4 16]
def r3:=[o 4 (.b9 (k 0))]
def c:=(s (d r0 [4]) (s (s (d r1 [5,6,7,8,9,10,11]) (i 12 (s (d r2 [0,1,12,13,14,15,16]) .ret) .skip)) (s (d r3 [0,1,12]) .ret)))
end W2
def W2:AFn:=⟨2,W2.c,[.tmp 4],false⟩
namespace W7
def r0:=[o 8 (.alloc 8 [z,z,z,z])]
def r1:=[m 10 0,o 11 (.call 34 [10,(k 1099511627776)]),m 0 11]
def r2:=[m 12 1,m 13 0,m 14 2,m 15 1,o 16 (.bin .sub 14 15),o 17 (.bin .add 16 (k 1)),o 18 (.bin .rem 13 17),o 19 (.bin .add 12 18),
 o 20 (.build [z,z,z,z] [(0,1,19)]),o 9 (.alloc 9 [z,z,z,z]),n (.st 4 9 20)]
def r3:=[m 21 0,m 22 2,m 23 1,o 24 (.bin .sub 22 23),o 25 (.bin .add 24 (k 1)),o 26 (.bin .quo 21 25),m 0 26]
def r4:=[o 27 (.a7 9 0),o 28 (.ld false 1 27),o 29 (.bin .sub 28 (k 1)),m 30 3,o 31 (.bin .sub 29 30),m 32 0,o 33 (.bin .rem 32 (k 2)),o 34 (.bin .sub 31 33),
 o 35 (.a7 9 1),n (.st 1 35 34)]
def r5:=[m 36 0,o 37 (.bin .quo 36 (k 2)),m 0 37]
def r6:=[o 38 (.a7 9 1),o 39 (.ld false 1 38),o 40 (.mm true [39,(k 0)]),o 41 (.a7 9 1),n (.st 1 41 40)]
def r7:=[m 42 0,o 43 (.bin .rem 42 (k 3)),o 44 (.bin .add (k 1) 43),m 45 0,o 46 (.bin .quo 45 (k 3)),o 47 (.bin .rem 46 (k 2)),o 48 (.bin .add (k 1) 47),
 o 49 (.a7 9 2),n (.st 1 49 44),o 50 (.a7 9 3),n (.st 1 50 48)]
def r8:=[o 51 (.ld true 4 9),n (.st 4 8 51)]
def c:=(s (p r0) (s (d r1 [10,11]) (s (d r2 [12,13,14,15,16,17,18,19,20]) (s (d r3 [1,2,21,22,23,24,25,26]) (s (d r4 [3,27,28,29,30,31,32,33,34,35]) (s (d r5 [36,37]) (s (d r6 [38,39,40,41]) (s (d r7 [0,42,43,44,45,46,47,48,49,50]) (s (d r8 [9,51]) .ret)))))))))
end W7
def W7:AFn:=⟨4,W7.c,[.cell 8 true 4],false⟩
namespace W4
def r0:=[o 2 (.alloc 2 [z,z,z,z])]
def r1:=[m 3 0,o 4 (.call 36 [3,(k 6),(k 9),(k 1)]),n (.st 4 2 4)]
def c:=(s (p r0) (s (d r1 [0,3,4]) .ret))
end W4
def W4:AFn:=⟨1,W4.c,[.cell 2 true 4],false⟩
namespace W3
def r0:=[o 6 (.b9 (.c .nil))]
def r1:=[o 7 (.ag 7 1)]
def r2:=[o 8 (.b9 (k 0))]
def r3:=[m 9 8,m 10 2,o 11 (.bin .lss 9 10)]
def r5:=[m 14 7,m 15 1,m 16 8,o 17 (.call 35 [15,16]),m 18 0,o 19 (.bin .add 17 18),m 20 0,o 21 (.bin .mul (k 2) 20),o 22 (.bin .add 21 (k 1)),
 o 23 (.call 34 [19,22]),m 24 0,o 25 (.bin .sub 23 24),o 26 (.g8 26 1 [25]),o 27 (.app 27 1 8 14 26),m 7 27]
def r4:=[m 12 8,o 13 (.bin .add 12 (k 1)),m 8 13]
def r6:=[m 28 7,m 6 28]
def l1:=(s (s (d r3 [9,10]) (i 11 .skip (x 0))) (s (b 1 (d r5 [11,14,15,16,17,18,19,20,21,22,23,24,25,26,27])) (d r4 [12,13])))
def c:=(s (d r0 [6]) (s (p r1) (s (s (p r2) (b 0 (w l1))) (s (d r6 [0,1,2,7,8,11,28]) .ret))))
end W3
def W3:AFn:=⟨3,W3.c,[.tmp 6],false⟩
namespace W5
def r0:=[o 1 (.box 1 0),o 2 (.b9 (k 0))]
def r1:=[o 3 (.a7 1 1),o 4 (.ld false 1 3),o 5 (.conv .u64 4),o 6 (.bin .shl (k 1) 5),m 2 6]
def c:=(s (d r0 [0,2]) (s (d r1 [1,3,4,5,6]) .ret))
end W5
def W5:AFn:=⟨1,W5.c,[.tmp 2],false⟩
structure v3 (L:Lib):Prop extends o5 L where
 W6:L 34=some F.W6
 W2:L 35=some F.W2
 W7:L 36=some F.W7
 W4:L 38=some F.W4
 W3:L 40=some F.W3
 W5:L 41=some F.W5
end Go.e8.F

namespace Go.e8.F
open C
structure om (L:Lib):Prop extends v3 L,c4 L where
structure oi (L:Lib):Prop extends om L where
end Go.e8.F

namespace Go.e8.F
open C
namespace UJ
def r0:=[o 1 (.box 1 0),o 2 (.b9 (.c .nil))]
def r1:=[o 3 (.ag 3 2)]
def r2:=[o 6 (.a7 1 0),o 7 (.ld false 1 6),o 8 (.len 7),o 9 (.b9 (k 0))]
def r3:=[o 10 (.bin .lss 9 8)]
def r4:=[m 11 9,m 4 11]
def r5:=[m 12 4,m 5 12]
def r6:=[m 13 5,o 14 (.a7 1 0),o 15 (.ld false 1 14),o 16 (.len 15),o 17 (.bin .lss 13 16)]
def r8:=[m 20 3,m 21 4,m 22 5,o 23 (.build [z,z] [(0,1,21),(1,1,22)]),o 24 (.g8 24 2 [23]),o 25 (.app 25 2 16 20 24),m 3 25]
def r7:=[m 18 5,o 19 (.bin .add 18 (k 1)),m 5 19]
def r9:=[o 26 (.bin .add 9 (k 1)),m 9 26]
def BM:=[m 27 3,m 2 27]
def l2:=(s (s (d r6 [13,14,15,16]) (i 17 .skip (x 2))) (s (b 3 (d r8 [17,20,21,22,23,24,25])) (d r7 [18,19])))
def l1:=(s (p r3) (s (i 10 .skip (x 0)) (s (b 1 (s (d r4 [10,11]) (s (d r5 [12]) (b 2 (w l2))))) (d r9 [4,5,17,26]))))
def c:=(s (d r0 [0,2]) (s (p r1) (s (s (d r2 [6,7]) (b 0 (w l1))) (s (d BM [1,3,8,9,10,27]) .ret))))
end UJ
def UJ:AFn:=⟨1,UJ.c,[.tmp 2],false⟩
namespace UI
def r0:=[o 2 (.box 2 0),o 3 (.box 3 1),o 4 (.b9 (.c .nil)),o 5 (.alloc 5 [(.bool false),.nil,.nil])]
def r1:=[o 6 (.ag 6 3)]
def r2:=[o 10 (.ld true 2 2),o 11 (.call 321 [10]),o 12 (.len 11),o 13 (.b9 (k 0))]
def r3:=[o 14 (.bin .lss 13 12)]
def r4:=[o 15 (.a5 none 2 11 13),o 16 (.ld true 2 15),o 8 (.alloc 8 [z,z]),n (.st 2 8 16)]
def r5:=[o 17 (.a7 2 0),q 18 [9] (.ld false 1 17),o 19 (.a7 3 0),q 20 [9] (.ld false 1 19),o 21 (.a5 none 1 18 20),
 q 22 [9] (.ld false 1 21),o 23 (.a7 8 0),q 24 [9] (.ld false 1 23),o 25 (.a5 none 3 22 24),q 26 [9] (.ld true 3 25),
 o 27 (.a7 2 0),q 28 [9] (.ld false 1 27),o 29 (.a7 3 1),q 30 [9] (.ld false 1 29),o 31 (.a5 none 1 28 30),
 q 32 [9] (.ld false 1 31),o 33 (.a7 8 1),q 34 [9] (.ld false 1 33),o 35 (.a5 none 3 32 34),q 36 [9] (.ld true 3 35),
 q 37 [9] (.call 99 [26,36]),q 38 [9] (.call 199 [37]),o 9 (.alloc 9 [(.bool false),.nil,.nil]),n (.st 3 9 38)]
def r6:=[o 39 (.a7 8 0),o 40 (.ld false 1 39),o 41 (.a7 8 1),o 42 (.ld false 1 41),o 43 (.bin .neq 40 42)]
def r7:=[o 44 (.ld true 3 9),o 45 (.a7 2 0),o 46 (.ld false 1 45),o 47 (.a7 3 0),o 48 (.ld false 1 47),o 49 (.a5 none 1 46 48),o 50 (.ld false 1 49),
 o 51 (.a7 8 1),o 52 (.ld false 1 51),o 53 (.a5 none 3 50 52),o 54 (.ld true 3 53),o 55 (.a7 2 0),o 56 (.ld false 1 55),o 57 (.a7 3 1),
 o 58 (.ld false 1 57),o 59 (.a5 none 1 56 58),o 60 (.ld false 1 59),o 61 (.a7 8 0),o 62 (.ld false 1 61),o 63 (.a5 none 3 60 62),
 o 64 (.ld true 3 63),o 65 (.call 99 [54,64]),o 66 (.call 150 [44,65]),n (.st 3 9 66)]
def r8:=[o 67 (.ld true 2 8),o 68 (.ld true 2 3),o 69 (.tv false 2 67 68)]
def r9:=[o 70 (.ld true 3 9),o 71 (.call 96 [(k 1)]),o 72 (.call 98 [70,71]),n (.st 3 9 72)]
def BM:=[m 73 6,o 74 (.ld true 3 9),o 75 (.g8 75 3 [74]),o 76 (.app 76 3 56 73 75),m 6 76]
def BZ:=[o 77 (.bin .add 13 (k 1)),m 13 77]
def w4:=[m 78 6,o 79 (.a7 2 1),o 80 (.ld false 1 79),o 81 (.a7 3 0),o 82 (.ld false 1 81),o 83 (.a5 none 3 80 82),o 84 (.ld true 3 83),o 85 (.a7 2 1),
 o 86 (.ld false 1 85),o 87 (.a7 3 1),o 88 (.ld false 1 87),o 89 (.a5 none 3 86 88),o 90 (.ld true 3 89),o 91 (.call 99 [84,90]),m 4 78,
 n (.st 3 5 91)]
def l1:=(s (p r3) (s (i 14 .skip (x 0)) (s (b 1 (s (d r4 [14,15,16]) (s (e r5 [17,18,19,20,21,22,23,24,25,26,27,28,29,30,31,32,33,34,35,36,37,38]) (s (s (d r6 [39,40,41,42]) (i 43 (e r7 [43,44,45,46,47,48,49,50,51,52,53,54,55,56,57,58,59,60,61,62,63,64,65,66]) .skip)) (s (s (d r8 [8,43,67,68]) (i 69 (e r9 [69,70,71,72]) .skip)) (d BM [9,69,73,74,75,76])))))) (d BZ [77]))))
def c:=(s (d r0 [0,1,4]) (s (p r1) (s (s (d r2 [10]) (b 0 (w l1))) (s (e w4 [2,3,6,11,12,13,14,78,79,80,81,82,83,84,85,86,87,88,89,90,91]) .ret))))
end UI
def UI:AFn:=⟨2,UI.c,[.tmp 4,.cell 5 true 3],false⟩
namespace UK
def r0:=[o 1 (.box 1 0),o 2 (.b9 (.c .nil)),o 3 (.b9 (k 0))]
def r1:=[o 18 (.a7 1 0),o 19 (.ld false 1 18),o 20 (.len 19),o 21 (.mk 21 1 24 [.nil] 20 20),m 4 21]
def r2:=[m 22 4,o 23 (.len 22),o 24 (.b9 (k 0))]
def r3:=[o 25 (.bin .lss 24 23)]
def r4:=[m 26 24,m 5 26]
def r5:=[m 27 4,m 28 5,o 29 (.a7 1 0),o 30 (.ld false 1 29),o 31 (.len 30),o 32 (.mk 32 3 56 [(.bool false),.nil,.nil] 31 31),o 33 (.a5 none 1 27 28),
 n (.st 1 33 32)]
def r6:=[o 34 (.bin .add 24 (k 1)),m 24 34]
def r7:=[o 35 (.ld true 2 1),o 36 (.call 321 [35]),m 6 36]
def r8:=[m 37 6,o 38 (.len 37),o 39 (.bin .eql 38 (k 0))]
def r9:=[m 40 4,m 2 40,o 3 (.b9 (k 0))]
def BM:=[o 41 (.ld true 2 1),o 42 (.tu 322 41),m 7 42]
def BZ:=[o 8 (.ag 8 1)]
def w4:=[o 9 (.ag 9 3)]
def CD:=[m 43 6,o 44 (.len 43),o 45 (.b9 (k 0))]
def ay:=[o 46 (.bin .lss 45 44)]
def ct:=[o 47 (.a5 none 2 43 45),o 48 (.ld true 2 47),o 11 (.alloc 11 [z,z]),n (.st 2 11 48)]
def du:=[m 50 7,o 51 (.ld true 2 11),o 52 (.o7 50 [51]),m 49 52,o 53 (.ext 49 0),o 54 (.ext 49 1),o 13 (.alloc 13 [(.bool false),.nil,.nil]),m 12 53,
 n (.st 3 13 54)]
def EA:=[m 55 8,m 56 12,o 57 (.g8 57 1 [56]),o 58 (.app 58 1 24 55 57),m 8 58]
def eg:=[m 59 9,o 60 (.ld true 3 13),o 61 (.g8 61 3 [60]),o 62 (.app 62 3 56 59 61),m 9 62]
def fw:=[o 63 (.bin .add 45 (k 1)),m 45 63]
def iq:=[m 65 8,m 66 9,o 67 (.call 237 [65,66]),m 64 67,o 68 (.ext 64 0),o 69 (.ext 64 1),m 14 68,m 15 69]
def lu:=[m 70 15,o 71 (.bin .neq 70 (k 0))]
def nf:=[m 72 15,o 2 (.b9 (.c .nil)),m 3 72]
def oh:=[m 73 6,o 74 (.len 73),o 75 (.b9 (k 0))]
def JL:=[o 76 (.bin .lss 75 74)]
def NY:=[m 77 75,o 78 (.a5 none 2 73 75),o 79 (.ld true 2 78),o 17 (.alloc 17 [z,z]),m 16 77,n (.st 2 17 79)]
def U1:=[m 80 4,o 81 (.a7 17 0),o 82 (.ld false 1 81),o 83 (.a5 none 1 80 82),o 84 (.ld false 1 83),o 85 (.a7 17 1),o 86 (.ld false 1 85),m 87 14,m 88 16,
 o 89 (.a5 none 3 87 88),o 90 (.ld true 3 89),o 91 (.call 95 [90]),o 92 (.a5 none 3 84 86),n (.st 3 92 91)]
def U2:=[m 93 4,o 94 (.a7 17 1),o 95 (.ld false 1 94),o 96 (.a5 none 1 93 95),o 97 (.ld false 1 96),o 98 (.a7 17 0),o 99 (.ld false 1 98),m 100 14,
 m 101 16,o 102 (.a5 none 3 100 101),o 103 (.ld true 3 102),o 104 (.call 95 [103]),o 105 (.a5 none 3 97 99),n (.st 3 105 104)]
def YW:=[o 106 (.bin .add 75 (k 1)),m 75 106]
def YX:=[m 107 4,m 2 107,o 3 (.b9 (k 0))]
def l1:=(s (p r3) (s (i 25 .skip (x 0)) (s (b 1 (s (d r4 [25,26]) (d r5 [5,27,28,29,30,31,32,33]))) (d r6 [34]))))
def l2:=(s (p ay) (s (i 46 .skip (x 2)) (s (b 3 (s (d ct [46,47,48]) (s (d du [11,49,50,51,52,53,54]) (s (d EA [12,55,56,57,58]) (d eg [13,59,60,61,62]))))) (d fw [63]))))
def l3:=(s (p JL) (s (i 76 .skip (x 4)) (s (b 5 (s (d NY [76,77,78,79]) (s (e U1 [80,81,82,83,84,85,86,87,88,89,90,91,92]) (e U2 [16,17,93,94,95,96,97,98,99,100,101,102,103,104,105])))) (d YW [106]))))
def c:=(s (d r0 [0,2,3]) (s (d r1 [18,19,20,21]) (s (s (d r2 [22]) (b 0 (w l1))) (s (d r7 [23,24,25,35,36]) (s (s (d r8 [37,38]) (i 39 (s (d r9 [1,4,6,39,40]) .ret) .skip)) (s (d BM [1,39,41,42]) (s (p BZ) (s (p w4) (s (s (p CD) (b 2 (w l2))) (s (d iq [7,8,9,43,44,45,46,64,65,66,67,68,69]) (s (s (d lu [70]) (i 71 (s (d nf [4,6,14,15,71,72]) .ret) .skip)) (s (s (d oh [6,15,71]) (b 4 (w l3))) (s (d YX [4,14,73,74,75,76,107]) .ret)))))))))))))
end UK
def UK:AFn:=⟨1,UK.c,[.tmp 2,.tmp 3],false⟩
namespace UF
def r0:=[o 4 (.b9 (.c .nil)),o 5 (.b9 (k 0))]
def r1:=[m 10 0,o 11 (.len 10),o 12 (.bin .gtr 11 (k 8)),m 13 12,g 14 13 false (.b9 1),g 15 13 false (.len 14),g 16 13 false (.b9 0),g 17 13 false (.len 16),
 g 18 13 false (.bin .neq 15 17),o 19 (.pick 13 (.c (.bool true)) 18)]
def r2:=[o 4 (.b9 (.c .nil)),o 5 (.b9 (k 2))]
def r3:=[m 20 0,o 21 (.len 20),o 22 (.b9 (k 0))]
def r4:=[o 23 (.bin .lss 22 21)]
def r5:=[o 24 (.a5 none 1 20 22),o 25 (.ld false 1 24),m 7 25]
def r6:=[m 26 7,o 27 (.len 26),m 28 0,o 29 (.len 28),o 30 (.bin .neq 27 29)]
def r7:=[o 4 (.b9 (.c .nil)),o 5 (.b9 (k 2))]
def r8:=[o 31 (.bin .add 22 (k 1)),m 22 31]
def r9:=[m 33 0,o 34 (.call 306 [33]),m 32 34,o 35 (.ext 32 0),o 36 (.ext 32 1),m 8 35,m 9 36]
def BM:=[m 37 9,o 38 (.bin .neq 37 (k 0))]
def BZ:=[m 39 9,o 4 (.b9 (.c .nil)),m 5 39]
def w4:=[m 40 0,m 41 1,o 42 (.build [.nil,.nil] [(0,1,40),(1,1,41)]),o 43 (.call 323 [42]),o 44 (.ext 43 0),o 45 (.ext 43 1),m 4 44,m 5 45]
def l1:=(s (p r4) (s (i 23 .skip (x 0)) (s (b 1 (s (d r5 [23,24,25]) (s (d r6 [7,26,27,28,29]) (i 30 (s (d r7 [0,1,20,21,22,30]) .ret) .skip)))) (d r8 [30,31]))))
def c:=(s (d r0 [4,5]) (s (s (d r1 [10,11,12,13,14,15,16,17,18]) (i 19 (s (d r2 [0,1,19]) .ret) .skip)) (s (s (d r3 [19]) (b 0 (w l1))) (s (s (d r9 [8,20,21,22,23,32,33,34,35,36]) (s (d BM [37]) (i 38 (s (d BZ [0,1,9,38,39]) .ret) .skip))) (s (d w4 [0,1,9,38,40,41,42,43,44,45]) .ret)))))
end UF
def UF:AFn:=⟨2,UF.c,[.tmp 4,.tmp 5],false⟩
namespace JQ
def r0:=[o 6 (.b9 (k 0))]
def r1:=[m 7 0,m 8 2,o 9 (.bin .mul 7 8),m 10 0,m 11 0,o 12 (.bin .sub 11 (k 1)),o 13 (.bin .mul 10 12),o 14 (.bin .quo 13 (k 2)),o 15 (.bin .sub 9 14),m 16 1,
 o 17 (.bin .add 15 16),m 18 0,o 19 (.bin .sub 17 18),m 6 19]
def c:=(s (d r0 [6]) (s (d r1 [0,1,2,7,8,9,10,11,12,13,14,15,16,17,18,19]) .ret))
end JQ
def JQ:AFn:=⟨3,JQ.c,[.tmp 6],false⟩
namespace WJ
def r0:=[o 4 (.b9 (.c .nil)),o 5 (.b9 (k 0))]
def r1:=[m 22 0,o 23 (.len 22),m 6 23]
def r2:=[m 24 6,o 25 (.bin .gtr 24 (k 8)),m 26 25,g 27 26 false (.b9 1),g 28 26 false (.len 27),g 29 26 false (.b9 6),g 30 26 false (.bin .neq 28 29),
 o 31 (.pick 26 (.c (.bool true)) 30)]
def r3:=[o 4 (.b9 (.c .nil)),o 5 (.b9 (k 2))]
def r4:=[m 33 0,o 34 (.call 314 [33]),m 32 34,o 35 (.ext 32 0),o 36 (.ext 32 1),m 7 35,m 8 36]
def r5:=[m 37 8,o 38 (.bin .neq 37 (k 0))]
def r6:=[m 39 8,o 4 (.b9 (.c .nil)),m 5 39]
def r7:=[m 40 6,o 41 (.bin .eql 40 (k 0))]
def r8:=[o 4 (.b9 (.c .nil)),o 5 (.b9 (k 0))]
def r9:=[o 9 (.ag 9 1)]
def BM:=[o 10 (.ag 10 3)]
def BZ:=[o 11 (.b9 (k 0))]
def w4:=[m 42 11,m 43 6,o 44 (.bin .lss 42 43)]
def ay:=[m 47 11,m 12 47]
def ct:=[m 48 12,m 49 6,o 50 (.bin .lss 48 49)]
def EA:=[m 53 6,m 54 6,o 55 (.bin .add 54 (k 1)),o 56 (.bin .mul 53 55),o 57 (.bin .quo 56 (k 2)),o 58 (.mk 58 3 56 [(.bool false),.nil,.nil] 57 57),m 13 58]
def eg:=[m 59 13,m 60 11,m 61 12,m 62 6,o 63 (.call 325 [60,61,62]),o 64 (.call 124 [(k 1)]),o 65 (.a5 none 3 59 63),n (.st 3 65 64)]
def fw:=[o 14 (.b9 (k 0))]
def iq:=[m 66 14,m 67 6,o 68 (.bin .lss 66 67)]
def nf:=[o 15 (.b9 (k 0))]
def oh:=[m 71 15,m 72 6,o 73 (.bin .lss 71 72)]
def NY:=[m 76 14,m 77 15,o 78 (.mm false [76,77]),m 79 14,m 80 15,o 81 (.mm true [79,80]),m 82 6,o 83 (.call 325 [78,81,82]),m 16 83]
def U1:=[m 84 13,m 85 16,m 86 13,m 87 16,o 88 (.a5 none 3 86 87),o 89 (.ld true 3 88),m 90 0,m 91 11,o 92 (.a5 none 1 90 91),o 93 (.ld false 1 92),m 94 14,
 o 95 (.a5 none 3 93 94),o 96 (.ld true 3 95),m 97 0,m 98 12,o 99 (.a5 none 1 97 98),o 100 (.ld false 1 99),m 101 15,o 102 (.a5 none 3 100 101),
 o 103 (.ld true 3 102),o 104 (.call 128 [96,103]),o 105 (.call 153 [89,104]),o 106 (.a5 none 3 84 85),n (.st 3 106 105)]
def JL:=[m 74 15,o 75 (.bin .add 74 (k 1)),m 15 75]
def lu:=[m 69 14,o 70 (.bin .add 69 (k 1)),m 14 70]
def U2:=[m 107 9,m 108 13,o 109 (.g8 109 1 [108]),o 110 (.app 110 1 24 107 109),m 111 10,m 112 1,m 113 11,o 114 (.a5 none 3 112 113),
 o 115 (.vu true 3 114),m 116 1,m 117 12,o 118 (.a5 none 3 116 117),o 119 (.vu true 3 118),o 120 (.call 128 [115,119]),o 121 (.g8 121 3 [120]),
 o 122 (.app 122 3 56 111 121),m 9 110,m 10 122]
def du:=[m 51 12,o 52 (.bin .add 51 (k 1)),m 12 52]
def CD:=[m 45 11,o 46 (.bin .add 45 (k 1)),m 11 46]
def YW:=[m 124 9,m 125 10,o 126 (.call 327 [124,125]),m 123 126,o 127 (.ext 123 0),o 128 (.ext 123 1),m 17 127,m 18 128]
def YX:=[m 129 18,o 130 (.bin .neq 129 (k 0))]
def Ar:=[m 131 18,o 4 (.b9 (.c .nil)),m 5 131]
def Cb:=[m 132 6,o 133 (.mk 133 1 24 [.nil] 132 132),m 19 133]
def uC:=[o 20 (.b9 (k 0))]
def uD:=[m 134 20,m 135 6,o 136 (.bin .lss 134 135)]
def uF:=[o 21 (.b9 (k 0))]
def uG:=[m 139 21,m 140 6,o 141 (.bin .lss 139 140)]
def uI:=[m 144 19,m 145 20,m 146 19,m 147 20,o 148 (.a5 none 1 146 147),q 149 [161] (.ld false 1 148),m 150 17,m 151 20,m 152 21,
 o 153 (.mm false [151,152]),m 154 20,m 155 21,o 156 (.mm true [154,155]),m 157 6,o 158 (.call 325 [153,156,157]),o 159 (.a5 none 3 150 158),
 o 160 (.ld true 3 159),o 161 (.g8 161 3 [160]),o 162 (.app 162 3 56 149 161),o 163 (.a5 none 1 144 145),n (.st 1 163 162)]
def uH:=[m 142 21,o 143 (.bin .add 142 (k 1)),m 21 143]
def uE:=[m 137 20,o 138 (.bin .add 137 (k 1)),m 20 138]
def Kj:=[m 164 19,m 4 164,o 5 (.b9 (k 0))]
def l4:=(s (s (d oh [71,72]) (i 73 .skip (x 6))) (s (b 7 (s (d NY [73,76,77,78,79,80,81,82,83]) (e U1 [16,84,85,86,87,88,89,90,91,92,93,94,95,96,97,98,99,100,101,102,103,104,105,106]))) (d JL [74,75])))
def l3:=(s (s (d iq [66,67]) (i 68 .skip (x 4))) (s (b 5 (s (d nf [68]) (b 6 (w l4)))) (d lu [15,69,70,73])))
def l2:=(s (s (d ct [48,49]) (i 50 .skip (x 2))) (s (b 3 (s (d EA [50,53,54,55,56,57,58]) (s (d eg [59,60,61,62,63,64,65]) (s (s (p fw) (b 4 (w l3))) (e U2 [13,14,68,107,108,109,110,111,112,113,114,115,116,117,118,119,120,121,122]))))) (d du [51,52])))
def l1:=(s (s (d w4 [42,43]) (i 44 .skip (x 0))) (s (b 1 (s (d ay [44,47]) (b 2 (w l2)))) (d CD [12,45,46,50])))
def l6:=(s (s (d uG [139,140]) (i 141 .skip (x 10))) (s (b 11 (e uI [141,144,145,146,147,148,149,150,151,152,153,154,155,156,157,158,159,160,161,162,163])) (d uH [142,143])))
def l5:=(s (s (d uD [134,135]) (i 136 .skip (x 8))) (s (b 9 (s (d uF [136]) (b 10 (w l6)))) (d uE [21,137,138,141])))
def c:=(s (d r0 [4,5]) (s (d r1 [22,23]) (s (s (d r2 [24,25,26,27,28,29,30]) (i 31 (s (d r3 [0,1,6,31]) .ret) .skip)) (s (s (d r4 [7,31,32,33,34,35,36]) (s (d r5 [37]) (i 38 (s (d r6 [0,1,6,8,38,39]) .ret) .skip))) (s (s (d r7 [8,38,40]) (i 41 (s (d r8 [0,1,6,41]) .ret) .skip)) (s (d r9 [41]) (s (p BM) (s (s (p BZ) (b 0 (w l1))) (s (d YW [0,1,9,10,11,44,123,124,125,126,127,128]) (s (s (d YX [129]) (i 130 (s (d Ar [6,17,18,130,131]) .ret) .skip)) (s (d Cb [18,130,132,133]) (s (s (p uC) (b 8 (w l5))) (s (d Kj [6,17,19,20,136,164]) .ret)))))))))))))
end WJ
def WJ:AFn:=⟨2,WJ.c,[.tmp 4,.tmp 5],false⟩
namespace V9
def r0:=[o 4 (.b9 (.c .nil)),o 5 (.b9 (k 0))]
def r1:=[m 15 0,o 16 (.call 239 [15]),o 17 (.un .not 16),m 14 17]
def r2:=[o 4 (.b9 (.c .nil)),o 5 (.b9 (k 2))]
def r3:=[m 19 0,o 20 (.len 19),m 21 0,o 22 (.a5 none 1 21 (k 0)),o 23 (.ld false 1 22),o 24 (.len 23),o 25 (.bin .neq 20 24),m 26 25,g 27 26 false (.b9 1),
 g 28 26 false (.len 27),g 29 26 false (.b9 0),g 30 26 false (.len 29),g 31 26 false (.bin .neq 28 30),o 32 (.pick 26 (.c (.bool true)) 31),m 18 32]
def r4:=[o 4 (.b9 (.c .nil)),o 5 (.b9 (k 1))]
def r5:=[o 6 (.ag 6 1)]
def r6:=[m 33 1,o 34 (.len 33),o 35 (.b9 (k 0))]
def r7:=[o 36 (.bin .lss 35 34)]
def r8:=[o 37 (.a5 none 3 33 35),o 38 (.ld true 3 37),o 8 (.alloc 8 [(.bool false),.nil,.nil]),n (.st 3 8 38)]
def r9:=[m 39 6,o 40 (.ld true 3 8),o 41 (.g8 41 3 [40]),o 42 (.g8 42 1 [41]),o 43 (.app 43 1 24 39 42),m 6 43]
def BM:=[o 44 (.bin .add 35 (k 1)),m 35 44]
def BZ:=[m 46 0,m 47 6,o 48 (.call 278 [46,47]),m 45 48,o 49 (.ext 45 0),o 50 (.ext 45 1),m 9 49,m 10 50]
def w4:=[o 11 (.ag 11 3)]
def CD:=[m 51 9,o 52 (.len 51),o 53 (.b9 (k 0))]
def ay:=[o 54 (.bin .lss 53 52)]
def ct:=[o 55 (.a5 none 1 51 53),o 56 (.ld false 1 55),m 13 56]
def du:=[m 57 11,m 58 13,o 59 (.a5 none 3 58 (k 0)),o 60 (.ld true 3 59),o 61 (.g8 61 3 [60]),o 62 (.app 62 3 56 57 61),m 11 62]
def EA:=[o 63 (.bin .add 53 (k 1)),m 53 63]
def eg:=[m 64 11,m 65 10,m 4 64,m 5 65]
def l1:=(s (p r7) (s (i 36 .skip (x 1)) (s (b 2 (s (d r8 [36,37,38]) (d r9 [8,39,40,41,42,43]))) (d BM [44]))))
def l2:=(s (p ay) (s (i 54 .skip (x 3)) (s (b 4 (s (d ct [54,55,56]) (d du [13,57,58,59,60,61,62]))) (d EA [63]))))
def c:=(s (d r0 [4,5]) (s (b 0 (s (d r1 [15,16,17]) (i 14 (s (d r2 [0,1,14]) .ret) (s (d r3 [14,19,20,21,22,23,24,25,26,27,28,29,30,31,32]) (i 18 (s (d r4 [0,1,18]) .ret) .skip))))) (s (d r5 [18]) (s (s (d r6 [1]) (b 1 (w l1))) (s (d BZ [0,6,33,34,35,36,45,46,47,48,49,50]) (s (p w4) (s (s (d CD [9]) (b 3 (w l2))) (s (d eg [10,11,51,52,53,54,64,65]) .ret))))))))
end V9
def V9:AFn:=⟨2,V9.c,[.tmp 4,.tmp 5],false⟩
structure z8 (L:Lib):Prop extends ae L,eo L,ah L,dj L,oi L where
 UJ:L 321=some F.UJ
 UI:L 322=some F.UI
 UK:L 323=some F.UK
 UF:L 324=some F.UF
 JQ:L 325=some F.JQ
 WJ:L 326=some F.WJ
 V9:L 327=some F.V9
end Go.e8.F
