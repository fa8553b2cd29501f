/-
  Functions of the program, as the abstract machine reads them (group GrmG). Written by a program (gen.py) off the model's own reading of the translation; the seat's check ties them to it.
-/
import Derived.Test.YtfnglkabkfmjcaaGreatB1
import Derived.Test.YtfnglkabkfmjcaaGreatB4
import Derived.IntWalk
set_option linter.unusedSimpArgs false
set_option linter.unusedVariables false
set_option linter.unnecessarySimpa false
namespace Go.c5.F
open C
namespace LW
def r0:=[o 1 (.box 1 0),o 2 (.b7 (.c .nil))]
def r1:=[o 3 (.s9 3 2)]
def r2:=[o 6 (.a6 1 0),o 7 (.ld false 1 6),o 8 (.len 7),o 9 (.b7 (k 0))]
def r3:=[o 10 (.bin .lss 9 8)]
def r4:=[m 11 9,m 4 11]
def r5:=[m 12 4,m 5 12]
def r6:=[m 13 5,o 14 (.a6 1 0),o 15 (.ld false 1 14),o 16 (.len 15),o 17 (.bin .lss 13 16)]
def r8:=[m 20 3,m 21 4,m 22 5,o 23 (.build [z,z] [(0,1,21),(1,1,22)]),o 24 (.c7 24 2 [23]),o 25 (.app 25 2 16 20 24),m 3 25]
def r7:=[m 18 5,o 19 (.bin .add 18 (k 1)),m 5 19]
def r9:=[o 26 (.bin .add 9 (k 1)),m 9 26]
def BT:=[m 27 3,m 2 27]
def l2:=(s (s (d r6 [13,14,15,16]) (i 17 .skip (x 2))) (s (b 3 (d r8 [17,20,21,22,23,24,25])) (d r7 [18,19])))
def l1:=(s (p r3) (s (i 10 .skip (x 0)) (s (b 1 (s (d r4 [10,11]) (s (d r5 [12]) (b 2 (w l2))))) (d r9 [4,5,17,26]))))
def c:=(s (d r0 [0,2]) (s (p r1) (s (s (d r2 [6,7]) (b 0 (w l1))) (s (d BT [1,3,8,9,10,27]) .ret))))
end LW
def LW:AFn:=⟨1,LW.c,[.tmp 2],false⟩
namespace LV
def r0:=[o 2 (.box 2 0),o 3 (.box 3 1),o 4 (.b7 (.c .nil)),o 5 (.alloc 5 [(.bool false),.nil,.nil])]
def r1:=[o 6 (.s9 6 3)]
def r2:=[o 10 (.ld true 2 2),o 11 (.call 321 [10]),o 12 (.len 11),o 13 (.b7 (k 0))]
def r3:=[o 14 (.bin .lss 13 12)]
def r4:=[o 15 (.a5 none 2 11 13),o 16 (.ld true 2 15),o 8 (.alloc 8 [z,z]),n (.st 2 8 16)]
def r5:=[o 17 (.a6 2 0),q 18 [9] (.ld false 1 17),o 19 (.a6 3 0),q 20 [9] (.ld false 1 19),o 21 (.a5 none 1 18 20),
 q 22 [9] (.ld false 1 21),o 23 (.a6 8 0),q 24 [9] (.ld false 1 23),o 25 (.a5 none 3 22 24),q 26 [9] (.ld true 3 25),
 o 27 (.a6 2 0),q 28 [9] (.ld false 1 27),o 29 (.a6 3 1),q 30 [9] (.ld false 1 29),o 31 (.a5 none 1 28 30),
 q 32 [9] (.ld false 1 31),o 33 (.a6 8 1),q 34 [9] (.ld false 1 33),o 35 (.a5 none 3 32 34),q 36 [9] (.ld true 3 35),
 q 37 [9] (.call 99 [26,36]),q 38 [9] (.call 199 [37]),o 9 (.alloc 9 [(.bool false),.nil,.nil]),n (.st 3 9 38)]
def r6:=[o 39 (.a6 8 0),o 40 (.ld false 1 39),o 41 (.a6 8 1),o 42 (.ld false 1 41),o 43 (.bin .neq 40 42)]
def r7:=[o 44 (.ld true 3 9),o 45 (.a6 2 0),o 46 (.ld false 1 45),o 47 (.a6 3 0),o 48 (.ld false 1 47),o 49 (.a5 none 1 46 48),o 50 (.ld false 1 49),
 o 51 (.a6 8 1),o 52 (.ld false 1 51),o 53 (.a5 none 3 50 52),o 54 (.ld true 3 53),o 55 (.a6 2 0),o 56 (.ld false 1 55),o 57 (.a6 3 1),
 o 58 (.ld false 1 57),o 59 (.a5 none 1 56 58),o 60 (.ld false 1 59),o 61 (.a6 8 0),o 62 (.ld false 1 61),o 63 (.a5 none 3 60 62),
 o 64 (.ld true 3 63),o 65 (.call 99 [54,64]),o 66 (.call 150 [44,65]),n (.st 3 9 66)]
def r8:=[o 67 (.ld true 2 8),o 68 (.ld true 2 3),o 69 (.qh false 2 67 68)]
def r9:=[o 70 (.ld true 3 9),o 71 (.call 96 [(k 1)]),o 72 (.call 98 [70,71]),n (.st 3 9 72)]
def BT:=[m 73 6,o 74 (.ld true 3 9),o 75 (.c7 75 3 [74]),o 76 (.app 76 3 56 73 75),m 6 76]
def B2:=[o 77 (.bin .add 13 (k 1)),m 13 77]
def o6:=[m 78 6,o 79 (.a6 2 1),o 80 (.ld false 1 79),o 81 (.a6 3 0),o 82 (.ld false 1 81),o 83 (.a5 none 3 80 82),o 84 (.ld true 3 83),o 85 (.a6 2 1),
 o 86 (.ld false 1 85),o 87 (.a6 3 1),o 88 (.ld false 1 87),o 89 (.a5 none 3 86 88),o 90 (.ld true 3 89),o 91 (.call 99 [84,90]),m 4 78,
 n (.st 3 5 91)]
def l1:=(s (p r3) (s (i 14 .skip (x 0)) (s (b 1 (s (d r4 [14,15,16]) (s (e r5 [17,18,19,20,21,22,23,24,25,26,27,28,29,30,31,32,33,34,35,36,37,38]) (s (s (d r6 [39,40,41,42]) (i 43 (e r7 [43,44,45,46,47,48,49,50,51,52,53,54,55,56,57,58,59,60,61,62,63,64,65,66]) .skip)) (s (s (d r8 [8,43,67,68]) (i 69 (e r9 [69,70,71,72]) .skip)) (d BT [9,69,73,74,75,76])))))) (d B2 [77]))))
def c:=(s (d r0 [0,1,4]) (s (p r1) (s (s (d r2 [10]) (b 0 (w l1))) (s (e o6 [2,3,6,11,12,13,14,78,79,80,81,82,83,84,85,86,87,88,89,90,91]) .ret))))
end LV
def LV:AFn:=⟨2,LV.c,[.tmp 4,.cell 5 true 3],false⟩
namespace LX
def r0:=[o 1 (.box 1 0),o 2 (.b7 (.c .nil)),o 3 (.b7 (k 0))]
def r1:=[o 18 (.a6 1 0),o 19 (.ld false 1 18),o 20 (.len 19),o 21 (.mk 21 1 24 [.nil] 20 20),m 4 21]
def r2:=[m 22 4,o 23 (.len 22),o 24 (.b7 (k 0))]
def r3:=[o 25 (.bin .lss 24 23)]
def r4:=[m 26 24,m 5 26]
def r5:=[m 27 4,m 28 5,o 29 (.a6 1 0),o 30 (.ld false 1 29),o 31 (.len 30),o 32 (.mk 32 3 56 [(.bool false),.nil,.nil] 31 31),o 33 (.a5 none 1 27 28),
 n (.st 1 33 32)]
def r6:=[o 34 (.bin .add 24 (k 1)),m 24 34]
def r7:=[o 35 (.ld true 2 1),o 36 (.call 321 [35]),m 6 36]
def r8:=[m 37 6,o 38 (.len 37),o 39 (.bin .eql 38 (k 0))]
def r9:=[m 40 4,m 2 40,o 3 (.b7 (k 0))]
def BT:=[o 41 (.ld true 2 1),o 42 (.qg 322 41),m 7 42]
def B2:=[o 8 (.s9 8 1)]
def o6:=[o 9 (.s9 9 3)]
def CG:=[m 43 6,o 44 (.len 43),o 45 (.b7 (k 0))]
def w4:=[o 46 (.bin .lss 45 44)]
def y9:=[o 47 (.a5 none 2 43 45),o 48 (.ld true 2 47),o 11 (.alloc 11 [z,z]),n (.st 2 11 48)]
def ak:=[m 50 7,o 51 (.ld true 2 11),o 52 (.m9 50 [51]),m 49 52,o 53 (.ext 49 0),o 54 (.ext 49 1),o 13 (.alloc 13 [(.bool false),.nil,.nil]),m 12 53,
 n (.st 3 13 54)]
def DR:=[m 55 8,m 56 12,o 57 (.c7 57 1 [56]),o 58 (.app 58 1 24 55 57),m 8 58]
def bf:=[m 59 9,o 60 (.ld true 3 13),o 61 (.c7 61 3 [60]),o 62 (.app 62 3 56 59 61),m 9 62]
def de:=[o 63 (.bin .add 45 (k 1)),m 45 63]
def ep:=[m 65 8,m 66 9,o 67 (.call 237 [65,66]),m 64 67,o 68 (.ext 64 0),o 69 (.ext 64 1),m 14 68,m 15 69]
def il:=[m 70 15,o 71 (.bin .neq 70 (k 0))]
def jj:=[m 72 15,o 2 (.b7 (.c .nil)),m 3 72]
def kg:=[m 73 6,o 74 (.len 73),o 75 (.b7 (k 0))]
def HE:=[o 76 (.bin .lss 75 74)]
def H8:=[m 77 75,o 78 (.a5 none 2 73 75),o 79 (.ld true 2 78),o 17 (.alloc 17 [z,z]),m 16 77,n (.st 2 17 79)]
def JC:=[m 80 4,o 81 (.a6 17 0),o 82 (.ld false 1 81),o 83 (.a5 none 1 80 82),o 84 (.ld false 1 83),o 85 (.a6 17 1),o 86 (.ld false 1 85),m 87 14,m 88 16,
 o 89 (.a5 none 3 87 88),o 90 (.ld true 3 89),o 91 (.call 95 [90]),o 92 (.a5 none 3 84 86),n (.st 3 92 91)]
def JD:=[m 93 4,o 94 (.a6 17 1),o 95 (.ld false 1 94),o 96 (.a5 none 1 93 95),o 97 (.ld false 1 96),o 98 (.a6 17 0),o 99 (.ld false 1 98),m 100 14,
 m 101 16,o 102 (.a5 none 3 100 101),o 103 (.ld true 3 102),o 104 (.call 95 [103]),o 105 (.a5 none 3 97 99),n (.st 3 105 104)]
def PQ:=[o 106 (.bin .add 75 (k 1)),m 75 106]
def PR:=[m 107 4,m 2 107,o 3 (.b7 (k 0))]
def l1:=(s (p r3) (s (i 25 .skip (x 0)) (s (b 1 (s (d r4 [25,26]) (d r5 [5,27,28,29,30,31,32,33]))) (d r6 [34]))))
def l2:=(s (p w4) (s (i 46 .skip (x 2)) (s (b 3 (s (d y9 [46,47,48]) (s (d ak [11,49,50,51,52,53,54]) (s (d DR [12,55,56,57,58]) (d bf [13,59,60,61,62]))))) (d de [63]))))
def l3:=(s (p HE) (s (i 76 .skip (x 4)) (s (b 5 (s (d H8 [76,77,78,79]) (s (e JC [80,81,82,83,84,85,86,87,88,89,90,91,92]) (e JD [16,17,93,94,95,96,97,98,99,100,101,102,103,104,105])))) (d PQ [106]))))
def c:=(s (d r0 [0,2,3]) (s (d r1 [18,19,20,21]) (s (s (d r2 [22]) (b 0 (w l1))) (s (d r7 [23,24,25,35,36]) (s (s (d r8 [37,38]) (i 39 (s (d r9 [1,4,6,39,40]) .ret) .skip)) (s (d BT [1,39,41,42]) (s (p B2) (s (p o6) (s (s (p CG) (b 2 (w l2))) (s (d ep [7,8,9,43,44,45,46,64,65,66,67,68,69]) (s (s (d il [70]) (i 71 (s (d jj [4,6,14,15,71,72]) .ret) .skip)) (s (s (d kg [6,15,71]) (b 4 (w l3))) (s (d PR [4,14,73,74,75,76,107]) .ret)))))))))))))
end LX
def LX:AFn:=⟨1,LX.c,[.tmp 2,.tmp 3],false⟩
namespace LS
def r0:=[o 4 (.b7 (.c .nil)),o 5 (.b7 (k 0))]
def r1:=[m 10 0,o 11 (.len 10),o 12 (.bin .gtr 11 (k 8)),m 13 12,g 14 13 false (.b7 1),g 15 13 false (.len 14),g 16 13 false (.b7 0),g 17 13 false (.len 16),
 g 18 13 false (.bin .neq 15 17),o 19 (.pick 13 (.c (.bool true)) 18)]
def r2:=[o 4 (.b7 (.c .nil)),o 5 (.b7 (k 2))]
def r3:=[m 20 0,o 21 (.len 20),o 22 (.b7 (k 0))]
def r4:=[o 23 (.bin .lss 22 21)]
def r5:=[o 24 (.a5 none 1 20 22),o 25 (.ld false 1 24),m 7 25]
def r6:=[m 26 7,o 27 (.len 26),m 28 0,o 29 (.len 28),o 30 (.bin .neq 27 29)]
def r7:=[o 4 (.b7 (.c .nil)),o 5 (.b7 (k 2))]
def r8:=[o 31 (.bin .add 22 (k 1)),m 22 31]
def r9:=[m 33 0,o 34 (.call 306 [33]),m 32 34,o 35 (.ext 32 0),o 36 (.ext 32 1),m 8 35,m 9 36]
def BT:=[m 37 9,o 38 (.bin .neq 37 (k 0))]
def B2:=[m 39 9,o 4 (.b7 (.c .nil)),m 5 39]
def o6:=[m 40 0,m 41 1,o 42 (.build [.nil,.nil] [(0,1,40),(1,1,41)]),o 43 (.call 323 [42]),o 44 (.ext 43 0),o 45 (.ext 43 1),m 4 44,m 5 45]
def l1:=(s (p r4) (s (i 23 .skip (x 0)) (s (b 1 (s (d r5 [23,24,25]) (s (d r6 [7,26,27,28,29]) (i 30 (s (d r7 [0,1,20,21,22,30]) .ret) .skip)))) (d r8 [30,31]))))
def c:=(s (d r0 [4,5]) (s (s (d r1 [10,11,12,13,14,15,16,17,18]) (i 19 (s (d r2 [0,1,19]) .ret) .skip)) (s (s (d r3 [19]) (b 0 (w l1))) (s (s (d r9 [8,20,21,22,23,32,33,34,35,36]) (s (d BT [37]) (i 38 (s (d B2 [0,1,9,38,39]) .ret) .skip))) (s (d o6 [0,1,9,38,40,41,42,43,44,45]) .ret)))))
end LS
def LS:AFn:=⟨2,LS.c,[.tmp 4,.tmp 5],false⟩
namespace ID
def r0:=[o 6 (.b7 (k 0))]
def r1:=[m 7 0,m 8 2,o 9 (.bin .mul 7 8),m 10 0,m 11 0,o 12 (.bin .sub 11 (k 1)),o 13 (.bin .mul 10 12),o 14 (.bin .quo 13 (k 2)),o 15 (.bin .sub 9 14),m 16 1,
 o 17 (.bin .add 15 16),m 18 0,o 19 (.bin .sub 17 18),m 6 19]
def c:=(s (d r0 [6]) (s (d r1 [0,1,2,7,8,9,10,11,12,13,14,15,16,17,18,19]) .ret))
end ID
def ID:AFn:=⟨3,ID.c,[.tmp 6],false⟩
namespace NV
def r0:=[o 4 (.b7 (.c .nil)),o 5 (.b7 (k 0))]
def r1:=[m 22 0,o 23 (.len 22),m 6 23]
def r2:=[m 24 6,o 25 (.bin .gtr 24 (k 8)),m 26 25,g 27 26 false (.b7 1),g 28 26 false (.len 27),g 29 26 false (.b7 6),g 30 26 false (.bin .neq 28 29),
 o 31 (.pick 26 (.c (.bool true)) 30)]
def r3:=[o 4 (.b7 (.c .nil)),o 5 (.b7 (k 2))]
def r4:=[m 33 0,o 34 (.call 314 [33]),m 32 34,o 35 (.ext 32 0),o 36 (.ext 32 1),m 7 35,m 8 36]
def r5:=[m 37 8,o 38 (.bin .neq 37 (k 0))]
def r6:=[m 39 8,o 4 (.b7 (.c .nil)),m 5 39]
def r7:=[m 40 6,o 41 (.bin .eql 40 (k 0))]
def r8:=[o 4 (.b7 (.c .nil)),o 5 (.b7 (k 0))]
def r9:=[o 9 (.s9 9 1)]
def BT:=[o 10 (.s9 10 3)]
def B2:=[o 11 (.b7 (k 0))]
def o6:=[m 42 11,m 43 6,o 44 (.bin .lss 42 43)]
def w4:=[m 47 11,m 12 47]
def y9:=[m 48 12,m 49 6,o 50 (.bin .lss 48 49)]
def DR:=[m 53 6,m 54 6,o 55 (.bin .add 54 (k 1)),o 56 (.bin .mul 53 55),o 57 (.bin .quo 56 (k 2)),o 58 (.mk 58 3 56 [(.bool false),.nil,.nil] 57 57),m 13 58]
def bf:=[m 59 13,m 60 11,m 61 12,m 62 6,o 63 (.call 325 [60,61,62]),o 64 (.call 124 [(k 1)]),o 65 (.a5 none 3 59 63),n (.st 3 65 64)]
def de:=[o 14 (.b7 (k 0))]
def ep:=[m 66 14,m 67 6,o 68 (.bin .lss 66 67)]
def jj:=[o 15 (.b7 (k 0))]
def kg:=[m 71 15,m 72 6,o 73 (.bin .lss 71 72)]
def H8:=[m 76 14,m 77 15,o 78 (.mm false [76,77]),m 79 14,m 80 15,o 81 (.mm true [79,80]),m 82 6,o 83 (.call 325 [78,81,82]),m 16 83]
def JC:=[m 84 13,m 85 16,m 86 13,m 87 16,o 88 (.a5 none 3 86 87),o 89 (.ld true 3 88),m 90 0,m 91 11,o 92 (.a5 none 1 90 91),o 93 (.ld false 1 92),m 94 14,
 o 95 (.a5 none 3 93 94),o 96 (.ld true 3 95),m 97 0,m 98 12,o 99 (.a5 none 1 97 98),o 100 (.ld false 1 99),m 101 15,o 102 (.a5 none 3 100 101),
 o 103 (.ld true 3 102),o 104 (.call 128 [96,103]),o 105 (.call 153 [89,104]),o 106 (.a5 none 3 84 85),n (.st 3 106 105)]
def HE:=[m 74 15,o 75 (.bin .add 74 (k 1)),m 15 75]
def il:=[m 69 14,o 70 (.bin .add 69 (k 1)),m 14 70]
def JD:=[m 107 9,m 108 13,o 109 (.c7 109 1 [108]),o 110 (.app 110 1 24 107 109),m 111 10,m 112 1,m 113 11,o 114 (.a5 none 3 112 113),
 o 115 (.sn true 3 114),m 116 1,m 117 12,o 118 (.a5 none 3 116 117),o 119 (.sn true 3 118),o 120 (.call 128 [115,119]),o 121 (.c7 121 3 [120]),
 o 122 (.app 122 3 56 111 121),m 9 110,m 10 122]
def ak:=[m 51 12,o 52 (.bin .add 51 (k 1)),m 12 52]
def CG:=[m 45 11,o 46 (.bin .add 45 (k 1)),m 11 46]
def PQ:=[m 124 9,m 125 10,o 126 (.call 327 [124,125]),m 123 126,o 127 (.ext 123 0),o 128 (.ext 123 1),m 17 127,m 18 128]
def PR:=[m 129 18,o 130 (.bin .neq 129 (k 0))]
def yd:=[m 131 18,o 4 (.b7 (.c .nil)),m 5 131]
def zt:=[m 132 6,o 133 (.mk 133 1 24 [.nil] 132 132),m 19 133]
def fD:=[o 20 (.b7 (k 0))]
def fE:=[m 134 20,m 135 6,o 136 (.bin .lss 134 135)]
def fH:=[o 21 (.b7 (k 0))]
def fI:=[m 139 21,m 140 6,o 141 (.bin .lss 139 140)]
def fK:=[m 144 19,m 145 20,m 146 19,m 147 20,o 148 (.a5 none 1 146 147),q 149 [161] (.ld false 1 148),m 150 17,m 151 20,m 152 21,
 o 153 (.mm false [151,152]),m 154 20,m 155 21,o 156 (.mm true [154,155]),m 157 6,o 158 (.call 325 [153,156,157]),o 159 (.a5 none 3 150 158),
 o 160 (.ld true 3 159),o 161 (.c7 161 3 [160]),o 162 (.app 162 3 56 149 161),o 163 (.a5 none 1 144 145),n (.st 1 163 162)]
def fJ:=[m 142 21,o 143 (.bin .add 142 (k 1)),m 21 143]
def fG:=[m 137 20,o 138 (.bin .add 137 (k 1)),m 20 138]
def Ia:=[m 164 19,m 4 164,o 5 (.b7 (k 0))]
def l4:=(s (s (d kg [71,72]) (i 73 .skip (x 6))) (s (b 7 (s (d H8 [73,76,77,78,79,80,81,82,83]) (e JC [16,84,85,86,87,88,89,90,91,92,93,94,95,96,97,98,99,100,101,102,103,104,105,106]))) (d HE [74,75])))
def l3:=(s (s (d ep [66,67]) (i 68 .skip (x 4))) (s (b 5 (s (d jj [68]) (b 6 (w l4)))) (d il [15,69,70,73])))
def l2:=(s (s (d y9 [48,49]) (i 50 .skip (x 2))) (s (b 3 (s (d DR [50,53,54,55,56,57,58]) (s (d bf [59,60,61,62,63,64,65]) (s (s (p de) (b 4 (w l3))) (e JD [13,14,68,107,108,109,110,111,112,113,114,115,116,117,118,119,120,121,122]))))) (d ak [51,52])))
def l1:=(s (s (d o6 [42,43]) (i 44 .skip (x 0))) (s (b 1 (s (d w4 [44,47]) (b 2 (w l2)))) (d CG [12,45,46,50])))
def l6:=(s (s (d fI [139,140]) (i 141 .skip (x 10))) (s (b 11 (e fK [141,144,145,146,147,148,149,150,151,152,153,154,155,156,157,158,159,160,161,162,163])) (d fJ [142,143])))
def l5:=(s (s (d fE [134,135]) (i 136 .skip (x 8))) (s (b 9 (s (d fH [136]) (b 10 (w l6)))) (d fG [21,137,138,141])))
def c:=(s (d r0 [4,5]) (s (d r1 [22,23]) (s (s (d r2 [24,25,26,27,28,29,30]) (i 31 (s (d r3 [0,1,6,31]) .ret) .skip)) (s (s (d r4 [7,31,32,33,34,35,36]) (s (d r5 [37]) (i 38 (s (d r6 [0,1,6,8,38,39]) .ret) .skip))) (s (s (d r7 [8,38,40]) (i 41 (s (d r8 [0,1,6,41]) .ret) .skip)) (s (d r9 [41]) (s (p BT) (s (s (p B2) (b 0 (w l1))) (s (d PQ [0,1,9,10,11,44,123,124,125,126,127,128]) (s (s (d PR [129]) (i 130 (s (d yd [6,17,18,130,131]) .ret) .skip)) (s (d zt [18,130,132,133]) (s (s (p fD) (b 8 (w l5))) (s (d Ia [6,17,19,20,136,164]) .ret)))))))))))))
end NV
def NV:AFn:=⟨2,NV.c,[.tmp 4,.tmp 5],false⟩
namespace NK
def r0:=[o 4 (.b7 (.c .nil)),o 5 (.b7 (k 0))]
def r1:=[m 15 0,o 16 (.call 239 [15]),o 17 (.un .not 16),m 14 17]
def r2:=[o 4 (.b7 (.c .nil)),o 5 (.b7 (k 2))]
def r3:=[m 19 0,o 20 (.len 19),m 21 0,o 22 (.a5 none 1 21 (k 0)),o 23 (.ld false 1 22),o 24 (.len 23),o 25 (.bin .neq 20 24),m 26 25,g 27 26 false (.b7 1),
 g 28 26 false (.len 27),g 29 26 false (.b7 0),g 30 26 false (.len 29),g 31 26 false (.bin .neq 28 30),o 32 (.pick 26 (.c (.bool true)) 31),m 18 32]
def r4:=[o 4 (.b7 (.c .nil)),o 5 (.b7 (k 1))]
def r5:=[o 6 (.s9 6 1)]
def r6:=[m 33 1,o 34 (.len 33),o 35 (.b7 (k 0))]
def r7:=[o 36 (.bin .lss 35 34)]
def r8:=[o 37 (.a5 none 3 33 35),o 38 (.ld true 3 37),o 8 (.alloc 8 [(.bool false),.nil,.nil]),n (.st 3 8 38)]
def r9:=[m 39 6,o 40 (.ld true 3 8),o 41 (.c7 41 3 [40]),o 42 (.c7 42 1 [41]),o 43 (.app 43 1 24 39 42),m 6 43]
def BT:=[o 44 (.bin .add 35 (k 1)),m 35 44]
def B2:=[m 46 0,m 47 6,o 48 (.call 278 [46,47]),m 45 48,o 49 (.ext 45 0),o 50 (.ext 45 1),m 9 49,m 10 50]
def o6:=[o 11 (.s9 11 3)]
def CG:=[m 51 9,o 52 (.len 51),o 53 (.b7 (k 0))]
def w4:=[o 54 (.bin .lss 53 52)]
def y9:=[o 55 (.a5 none 1 51 53),o 56 (.ld false 1 55),m 13 56]
def ak:=[m 57 11,m 58 13,o 59 (.a5 none 3 58 (k 0)),o 60 (.ld true 3 59),o 61 (.c7 61 3 [60]),o 62 (.app 62 3 56 57 61),m 11 62]
def DR:=[o 63 (.bin .add 53 (k 1)),m 53 63]
def bf:=[m 64 11,m 65 10,m 4 64,m 5 65]
def l1:=(s (p r7) (s (i 36 .skip (x 1)) (s (b 2 (s (d r8 [36,37,38]) (d r9 [8,39,40,41,42,43]))) (d BT [44]))))
def l2:=(s (p w4) (s (i 54 .skip (x 3)) (s (b 4 (s (d y9 [54,55,56]) (d ak [13,57,58,59,60,61,62]))) (d DR [63]))))
def c:=(s (d r0 [4,5]) (s (b 0 (s (d r1 [15,16,17]) (i 14 (s (d r2 [0,1,14]) .ret) (s (d r3 [14,19,20,21,22,23,24,25,26,27,28,29,30,31,32]) (i 18 (s (d r4 [0,1,18]) .ret) .skip))))) (s (d r5 [18]) (s (s (d r6 [1]) (b 1 (w l1))) (s (d B2 [0,6,33,34,35,36,45,46,47,48,49,50]) (s (p o6) (s (s (d CG [9]) (b 3 (w l2))) (s (d bf [10,11,51,52,53,54,64,65]) .ret))))))))
end NK
def NK:AFn:=⟨2,NK.c,[.tmp 4,.tmp 5],false⟩
structure q8 (L:Lib):Prop extends q9 L,cf L,u4 L,aq L,bz L where
 LW:L 321=some F.LW
 LV:L 322=some F.LV
 LX:L 323=some F.LX
 LS:L 324=some F.LS
 ID:L 325=some F.ID
 NV:L 326=some F.NV
 NK:L 327=some F.NK
end Go.c5.F
namespace Go.c5.F
open C
namespace LY
def r0:=[o 1 (.box 1 0),o 2 (.b7 (.c (.bool false)))]
def r1:=[o 3 (.ld true 6 1),o 4 (.call 130 [3]),m 5 4,g 6 5 true (.a6 1 0),g 7 5 true (.ld false 1 6),g 8 5 true (.len 7),g 9 5 true (.bin .leq 8 (k 8)),
 o 10 (.pick 5 9 (.c (.bool false))),m 2 10]
def c:=(s (d r0 [0,2]) (s (d r1 [1,3,4,5,6,7,8,9,10]) .ret))
end LY
def LY:AFn:=⟨1,LY.c,[.tmp 2],false⟩
namespace LU
def r0:=[o 4 (.alloc 4 [(.bool false),.nil,.nil])]
def r1:=[o 8 (.call 96 [(k 0)]),o 5 (.alloc 5 [(.bool false),.nil,.nil]),n (.st 3 5 8)]
def r2:=[m 9 0,o 10 (.len 9),o 11 (.b7 (k 0))]
def r3:=[o 12 (.bin .lss 11 10)]
def r4:=[m 13 11,m 6 13]
def r5:=[m 14 0,m 15 6,o 16 (.a5 none 1 14 15),o 17 (.ld false 1 16),o 18 (.len 17),o 19 (.b7 (k 0))]
def r6:=[o 20 (.bin .lss 19 18)]
def r7:=[m 21 19,m 7 21]
def r8:=[o 22 (.ld true 3 5),m 23 0,m 24 6,o 25 (.a5 none 1 23 24),o 26 (.ld false 1 25),m 27 7,o 28 (.a5 none 3 26 27),o 29 (.ld true 3 28),m 30 1,m 31 6,
 o 32 (.a5 none 3 30 31),o 33 (.ld true 3 32),m 34 1,m 35 7,o 36 (.a5 none 3 34 35),o 37 (.ld true 3 36),o 38 (.call 99 [33,37]),
 o 39 (.call 99 [29,38]),o 40 (.call 98 [22,39]),n (.st 3 5 40)]
def r9:=[o 41 (.bin .add 19 (k 1)),m 19 41]
def BT:=[o 42 (.bin .add 11 (k 1)),m 11 42]
def B2:=[o 43 (.ld true 3 5),n (.st 3 4 43)]
def l2:=(s (p r6) (s (i 20 .skip (x 2)) (s (b 3 (s (d r7 [20,21]) (e r8 [7,22,23,24,25,26,27,28,29,30,31,32,33,34,35,36,37,38,39,40]))) (d r9 [41]))))
def l1:=(s (p r3) (s (i 12 .skip (x 0)) (s (b 1 (s (d r4 [12,13]) (s (d r5 [14,15,16,17]) (b 2 (w l2))))) (d BT [6,18,19,20,42]))))
def c:=(s (p r0) (s (d r1 [8]) (s (s (d r2 [9]) (b 0 (w l1))) (s (d B2 [0,1,5,10,11,12,43]) .ret))))
end LU
def LU:AFn:=⟨2,LU.c,[.cell 4 true 3],false⟩
namespace LT
def r0:=[o 4 (.b7 (.c .nil))]
def r1:=[m 9 0,o 10 (.len 9),o 11 (.mk 11 3 56 [(.bool false),.nil,.nil] 10 10),m 5 11]
def r2:=[m 12 5,o 13 (.len 12),o 14 (.b7 (k 0))]
def r3:=[o 15 (.bin .lss 14 13)]
def r4:=[m 16 14,m 6 16]
def r5:=[o 17 (.call 96 [(k 0)]),o 7 (.alloc 7 [(.bool false),.nil,.nil]),n (.st 3 7 17)]
def r6:=[m 18 0,o 19 (.len 18),o 20 (.b7 (k 0))]
def r7:=[o 21 (.bin .lss 20 19)]
def r8:=[m 22 20,m 8 22]
def r9:=[o 23 (.ld true 3 7),m 24 0,m 25 8,o 26 (.a5 none 3 24 25),o 27 (.ld true 3 26),m 28 1,m 29 8,o 30 (.a5 none 1 28 29),o 31 (.ld false 1 30),m 32 6,
 o 33 (.a5 none 3 31 32),o 34 (.ld true 3 33),o 35 (.call 99 [27,34]),o 36 (.call 98 [23,35]),n (.st 3 7 36)]
def BT:=[o 37 (.bin .add 20 (k 1)),m 20 37]
def B2:=[m 38 5,m 39 6,o 40 (.ld true 3 7),o 41 (.a5 none 3 38 39),n (.st 3 41 40)]
def o6:=[o 42 (.bin .add 14 (k 1)),m 14 42]
def CG:=[m 43 5,m 4 43]
def l2:=(s (p r7) (s (i 21 .skip (x 2)) (s (b 3 (s (d r8 [21,22]) (e r9 [8,23,24,25,26,27,28,29,30,31,32,33,34,35,36]))) (d BT [37]))))
def l1:=(s (p r3) (s (i 15 .skip (x 0)) (s (b 1 (s (d r4 [15,16]) (s (d r5 [17]) (s (s (d r6 [18]) (b 2 (w l2))) (d B2 [6,7,19,20,21,38,39,40,41]))))) (d o6 [42]))))
def c:=(s (d r0 [4]) (s (d r1 [9,10,11]) (s (s (d r2 [12]) (b 0 (w l1))) (s (d CG [0,1,5,13,14,15,43]) .ret))))
end LT
def LT:AFn:=⟨2,LT.c,[.tmp 4],false⟩
namespace JA
def r0:=[o 2 (.box 2 0),o 4 (.alloc 4 [(.bool false),.nil,.nil]),o 5 (.b7 (k 0))]
def r1:=[o 9 (.ld true 6 2),o 10 (.call 328 [9]),o 11 (.un .not 10)]
def r2:=[o 12 (.build [(.bool false),.nil,.nil] []),n (.st 3 4 12),o 5 (.b7 (k 2))]
def r3:=[m 13 1,o 14 (.bin .lss 13 (k 0)),m 15 14,g 16 15 false (.b7 1),g 17 15 false (.bin .gtr 16 (k 64)),o 18 (.pick 15 (.c (.bool true)) 17)]
def r4:=[o 19 (.build [(.bool false),.nil,.nil] []),n (.st 3 4 19),o 5 (.b7 (k 1))]
def r5:=[o 21 (.a6 2 0),o 22 (.ld false 1 21),o 23 (.a6 2 1),o 24 (.ld false 1 23),o 25 (.call 324 [22,24]),m 20 25,o 26 (.ext 20 0),o 27 (.ext 20 1),
 m 6 26,m 7 27]
def r6:=[m 28 7,o 29 (.bin .neq 28 (k 0))]
def r7:=[o 30 (.build [(.bool false),.nil,.nil] []),m 31 7,n (.st 3 4 30),m 5 31]
def r8:=[m 32 1,o 33 (.bin .eql 32 (k 0))]
def r9:=[o 34 (.a6 2 3),o 35 (.ld true 3 34),o 36 (.a6 2 3),o 37 (.ld true 3 36),o 38 (.call 99 [35,37]),m 39 6,o 40 (.a6 2 2),o 41 (.ld false 1 40),
 o 42 (.call 329 [39,41]),o 43 (.call 98 [38,42]),n (.st 3 4 43),o 5 (.b7 (k 0))]
def BT:=[o 44 (.a6 2 2),o 45 (.ld false 1 44),m 8 45]
def B2:=[m 46 1,o 47 (.bin .sub 46 (k 1)),o 48 (.b7 (k 0))]
def o6:=[o 49 (.bin .lss 48 47)]
def CG:=[m 50 8,o 51 (.a6 2 0),o 52 (.ld false 1 51),o 53 (.call 330 [50,52]),m 8 53]
def w4:=[o 54 (.bin .add 48 (k 1)),m 48 54]
def y9:=[m 55 6,m 56 8,o 57 (.call 329 [55,56]),n (.st 3 4 57),o 5 (.b7 (k 0))]
def l1:=(s (p o6) (s (i 49 .skip (x 0)) (s (b 1 (d CG [49,50,51,52,53])) (d w4 [54]))))
def c:=(s (d r0 [0,5]) (s (s (d r1 [9,10]) (i 11 (s (d r2 [1,2,11,12]) .ret) .skip)) (s (s (d r3 [11,13,14,15,16,17]) (i 18 (s (d r4 [1,2,18,19]) .ret) .skip)) (s (d r5 [18,20,21,22,23,24,25,26,27]) (s (s (d r6 [28]) (i 29 (s (d r7 [1,2,6,7,29,30,31]) .ret) .skip)) (s (s (d r8 [7,29,32]) (i 33 (s (e r9 [1,2,6,33,34,35,36,37,38,39,40,41,42,43]) .ret) .skip)) (s (d BT [33,44,45]) (s (s (d B2 [1,46]) (b 0 (w l1))) (s (d y9 [2,6,8,47,48,49,55,56,57]) .ret)))))))))
end JA
def JA:AFn:=⟨2,JA.c,[.cell 4 true 3,.tmp 5],false⟩
namespace LR
def r0:=[o 1 (.box 1 0),o 2 (.alloc 2 [(.bool false),.nil,.nil]),o 3 (.b7 (k 0))]
def r1:=[o 4 (.ld true 6 1),o 5 (.call 331 [4,(k 0)]),o 6 (.ext 5 0),o 7 (.ext 5 1),n (.st 3 2 6),m 3 7]
def c:=(s (d r0 [0,3]) (s (d r1 [1,4,5,6,7]) .ret))
end LR
def LR:AFn:=⟨1,LR.c,[.cell 2 true 3,.tmp 3],false⟩
structure w5 (L:Lib):Prop extends q8 L where
 LY:L 328=some F.LY
 LU:L 329=some F.LU
 LT:L 330=some F.LT
 JA:L 331=some F.JA
 LR:L 332=some F.LR
end Go.c5.F

namespace Go.c5.F
open C
namespace KZ
def r0:=[o 0 (.b7 (.c (.bool false)))]
def r1:=[o 9 (.call 124 [(k 1)]),o 10 (.call 125 [(k 1),(k 2)]),o 1 (.alloc 1 [(.bool false),.nil,.nil]),o 2 (.alloc 2 [(.bool false),.nil,.nil]),n (.st 3 1 9),
 n (.st 3 2 10)]
def r2:=[q 12 [17,3] (.ld true 3 1),o 13 (.c7 13 3 [12]),q 14 [13,3] (.ld true 3 1),q 15 [13,3] (.ld true 3 2),
 q 16 [13,3] (.call 152 [15]),o 17 (.c7 17 3 [14,16]),o 18 (.build [.nil,.nil] [(0,1,13),(1,1,17)]),
 q 19 [3] (.call 207 [18]),m 11 19,o 20 (.ext 11 0),o 21 (.ext 11 1),o 3 (.alloc 3 [.nil,.nil,.nil,(.bool false),.nil,.nil]),
 n (.st 6 3 20),m 4 21]
def r3:=[o 23 (.ld true 6 3),o 24 (.call 332 [23]),m 22 24,o 25 (.ext 22 0),o 26 (.ext 22 1),o 5 (.alloc 5 [(.bool false),.nil,.nil]),n (.st 3 5 25),m 6 26]
def r4:=[o 28 (.ld true 6 3),o 29 (.call 331 [28,(k 1)]),m 27 29,o 30 (.ext 27 0),o 31 (.ext 27 1),o 7 (.alloc 7 [(.bool false),.nil,.nil]),n (.st 3 7 30),
 m 8 31]
def r5:=[m 32 4,o 33 (.bin .eql 32 (k 0)),m 34 33,g 35 34 true (.b7 6),g 36 34 true (.bin .eql 35 (k 0)),o 37 (.pick 34 36 (.c (.bool false))),m 38 37,
 g 39 38 true (.b7 8),g 40 38 true (.bin .eql 39 (k 0)),o 41 (.pick 38 40 (.c (.bool false))),m 42 41,g 43 42 true (.ld true 3 5),
 g 44 42 true (.call 125 [(k 4),(k 3)]),g 45 42 true (.call 127 [43,44]),g 46 42 true (.bin .eql 45 (k 0)),o 47 (.pick 42 46 (.c (.bool false))),m 48 47,
 g 49 48 true (.ld true 3 7),g 50 48 true (.call 125 [(k 1),(k 3)]),g 51 48 true (.call 127 [49,50]),g 52 48 true (.bin .eql 51 (k 0)),
 o 53 (.pick 48 52 (.c (.bool false))),m 0 53]
def c:=(s (d r0 [0]) (s (d r1 [9,10]) (s (e r2 [1,2,11,12,13,14,15,16,17,18,19,20,21]) (s (d r3 [22,23,24,25,26]) (s (d r4 [3,27,28,29,30,31]) (s (e r5 [4,5,6,7,8,32,33,34,35,36,37,38,39,40,41,42,43,44,45,46,47,48,49,50,51,52,53]) .ret))))))
end KZ
def KZ:AFn:=⟨0,KZ.c,[.tmp 0],false⟩
namespace KY
def r0:=[o 4 (.b7 (.c (.bool false)))]
def r1:=[m 16 1,o 17 (.call 34 [16,(k 4)]),m 5 17]
def r2:=[m 18 0,m 19 5,o 20 (.call 317 [18,19]),o 6 (.alloc 6 [.nil,.nil,.nil,(.bool false),.nil,.nil]),n (.st 6 6 20)]
def r3:=[o 22 (.a6 6 0),o 23 (.ld false 1 22),o 24 (.a6 6 1),o 25 (.ld false 1 24),o 26 (.call 324 [23,25]),m 21 26,o 27 (.ext 21 0),o 28 (.ext 21 1),
 m 7 27,m 8 28]
def r4:=[o 30 (.a6 6 0),o 31 (.ld false 1 30),o 32 (.a6 6 1),o 33 (.ld false 1 32),o 34 (.call 326 [31,33]),m 29 34,o 35 (.ext 29 0),o 36 (.ext 29 1),
 m 9 35,m 10 36]
def r5:=[m 37 8,m 38 10,o 39 (.bin .neq 37 38),m 40 39,g 41 40 false (.b7 7),g 42 40 false (.len 41),g 43 40 false (.b7 9),g 44 40 false (.len 43),
 g 45 40 false (.bin .neq 42 44),o 46 (.pick 40 (.c (.bool true)) 45)]
def r6:=[o 4 (.b7 (.c (.bool false)))]
def r7:=[m 47 8,o 48 (.bin .neq 47 (k 0))]
def r8:=[o 49 (.call 336 []),m 4 49]
def r9:=[o 11 (.b7 (k 0))]
def BT:=[m 50 11,m 51 5,o 52 (.bin .lss 50 51)]
def o6:=[m 55 7,m 56 11,o 57 (.a5 none 1 55 56),o 58 (.ld false 1 57),m 59 9,m 60 11,o 61 (.a5 none 1 59 60),o 62 (.ld false 1 61),o 63 (.call 129 [58,62]),
 o 64 (.un .not 63)]
def CG:=[o 4 (.b7 (.c (.bool false)))]
def w4:=[o 12 (.b7 (k 0))]
def y9:=[m 65 12,m 66 5,o 67 (.bin .lss 65 66)]
def DR:=[o 70 (.a6 6 1),q 71 [13] (.ld false 1 70),m 72 11,o 73 (.a5 none 3 71 72),q 74 [13] (.ld true 3 73),o 75 (.a6 6 1),
 q 76 [13] (.ld false 1 75),m 77 12,o 78 (.a5 none 3 76 77),q 79 [13] (.ld true 3 78),q 80 [13] (.call 128 [74,79]),
 o 13 (.alloc 13 [(.bool false),.nil,.nil]),n (.st 3 13 80)]
def bf:=[o 14 (.b7 (k 0))]
def de:=[m 81 14,m 82 5,o 83 (.bin .lss 81 82)]
def il:=[o 15 (.b7 (k 0))]
def jj:=[m 86 15,m 87 5,o 88 (.bin .lss 86 87)]
def HE:=[o 91 (.ld true 3 13),o 92 (.a6 6 0),o 93 (.ld false 1 92),m 94 11,o 95 (.a5 none 1 93 94),o 96 (.ld false 1 95),m 97 14,o 98 (.a5 none 3 96 97),
 o 99 (.ld true 3 98),o 100 (.a6 6 0),o 101 (.ld false 1 100),m 102 12,o 103 (.a5 none 1 101 102),o 104 (.ld false 1 103),m 105 15,
 o 106 (.a5 none 3 104 105),o 107 (.ld true 3 106),o 108 (.call 128 [99,107]),m 109 9,m 110 14,o 111 (.a5 none 1 109 110),o 112 (.ld false 1 111),
 m 113 15,o 114 (.a5 none 3 112 113),o 115 (.ld true 3 114),o 116 (.call 128 [108,115]),o 117 (.call 126 [91,116]),n (.st 3 13 117)]
def kg:=[m 89 15,o 90 (.bin .add 89 (k 1)),m 15 90]
def ep:=[m 84 14,o 85 (.bin .add 84 (k 1)),m 14 85]
def H8:=[m 118 7,m 119 11,o 120 (.a5 none 1 118 119),o 121 (.ld false 1 120),m 122 12,o 123 (.a5 none 3 121 122),o 124 (.ld true 3 123),o 125 (.ld true 3 13),
 o 126 (.call 127 [124,125]),o 127 (.bin .neq 126 (k 0)),m 128 127,g 129 128 false (.b7 7),g 130 128 false (.b7 11),
 g 131 128 false (.a5 none 1 129 130),g 132 128 false (.ld false 1 131),g 133 128 false (.b7 12),g 134 128 false (.a5 none 3 132 133),
 g 135 128 false (.ld true 3 134),g 136 128 false (.b7 9),g 137 128 false (.b7 12),g 138 128 false (.a5 none 1 136 137),
 g 139 128 false (.ld false 1 138),g 140 128 false (.b7 11),g 141 128 false (.a5 none 3 139 140),g 142 128 false (.ld true 3 141),
 g 143 128 false (.call 127 [135,142]),g 144 128 false (.bin .neq 143 (k 0)),o 145 (.pick 128 (.c (.bool true)) 144)]
def JC:=[o 4 (.b7 (.c (.bool false)))]
def ak:=[m 68 12,o 69 (.bin .add 68 (k 1)),m 12 69]
def B2:=[m 53 11,o 54 (.bin .add 53 (k 1)),m 11 54]
def JD:=[o 146 (.call 336 []),m 4 146]
def l4:=(s (s (d jj [86,87]) (i 88 .skip (x 6))) (s (b 7 (e HE [88,91,92,93,94,95,96,97,98,99,100,101,102,103,104,105,106,107,108,109,110,111,112,113,114,115,116,117])) (d kg [89,90])))
def l3:=(s (s (d de [81,82]) (i 83 .skip (x 4))) (s (b 5 (s (d il [83]) (b 6 (w l4)))) (d ep [15,84,85,88])))
def l2:=(s (s (d y9 [65,66]) (i 67 .skip (x 2))) (s (b 3 (s (e DR [67,70,71,72,73,74,75,76,77,78,79,80]) (s (s (p bf) (b 4 (w l3))) (s (e H8 [13,14,83,118,119,120,121,122,123,124,125,126,127,128,129,130,131,132,133,134,135,136,137,138,139,140,141,142,143,144]) (i 145 (s (d JC [5,6,7,9,11,12,145]) .ret) .skip))))) (d ak [68,69,145])))
def l1:=(s (s (d BT [50,51]) (i 52 .skip (x 0))) (s (b 1 (s (s (e o6 [52,55,56,57,58,59,60,61,62,63]) (i 64 (s (d CG [5,6,7,9,11,64]) .ret) .skip)) (s (d w4 [64]) (b 2 (w l2))))) (d B2 [12,53,54,67])))
def c:=(s (d r0 [4]) (s (d r1 [1,16,17]) (s (d r2 [0,18,19,20]) (s (d r3 [21,22,23,24,25,26,27,28]) (s (d r4 [29,30,31,32,33,34,35,36]) (s (s (d r5 [10,37,38,39,40,41,42,43,44,45]) (i 46 (s (d r6 [5,6,7,8,9,46]) .ret) .skip)) (s (s (d r7 [8,46,47]) (i 48 (s (d r8 [5,6,7,9,48,49]) .ret) .skip)) (s (s (d r9 [48]) (b 0 (w l1))) (s (d JD [5,6,7,9,11,52,146]) .ret)))))))))
end KY
def KY:AFn:=⟨2,KY.c,[.tmp 4],false⟩
structure ki (L:Lib):Prop extends w5 L where
 KZ:L 336=some F.KZ
 KY:L 337=some F.KY
end Go.c5.F

namespace Go.c5
section
variable {L:Lib}
def Cl.le (C C':Cl):Prop:=(∀ f vs r,C.pure f vs=some r->C'.pure f vs=some r)/\(∀ f vs o r,C.gp f vs o=some r->C'.gp f vs o=some r)/\C.num=C'.num
theorem jL {x y:Option (AV × AH)} {r:Nat × List (List AV)} (h : ∀ q,x=some q->y=some q) (hr:OH x=some r):OH y=some r:=by
 cases x with
 | none=>simp [OH]at hr
 | some q=>rw[h q rfl];exact hr
theorem Uj {C C':Cl} (h:C.le C') {b9:List Nat} {ρ:AP->AV} {own:AH} {op:DY} {E:CB} (he:c9 C b9 ρ own op=some E):c9 C' b9 ρ own op=some E:=by
 cases op with
 | call f xs =>
  simp only[c9]at he ⊢;split at he
  ·rename_i vs gj
   simp only[Option.map_eq_some_iff]at he ⊢;obtain ⟨r,hr,rfl⟩:=he;exact ⟨r,h.1 f vs r hr,rfl⟩
  ·cases he
 | e9 f xs =>
  simp only[c9,Option.map_eq_some_iff]at he ⊢;obtain ⟨r,hr,rfl⟩:=he;exact ⟨r,h.2.1 f _ own r hr,rfl⟩
 | pd p f xs=>simp only[c9]at he ⊢;rw[<-h.2.2];exact he
 | qg f x=>simp only[c9]at he ⊢;rw[<-h.2.2];exact he
 | bg s f xs =>
  simp only[c9,Option.map_eq_some_iff]at he ⊢;obtain ⟨p,hp,rfl⟩:=he;exact ⟨p,XX.2 λ o ho=>h.2.1 f _ o _ (XX.1 hp o ho),rfl⟩
 | o9 s f xs =>
  simp only[c9]at he ⊢;split at he
  ·rename_i vs gj
   simp only[Option.map_eq_some_iff]at he ⊢;obtain ⟨r,hr,rfl⟩:=he;exact ⟨r,jL (h.2.1 f vs AH.emp) hr,rfl⟩
  ·cases he
 | l9 f xs =>
  simp only[c9]at he ⊢;split at he
  ·rename_i hq
   rw[if_pos hq];split at he
   ·rename_i r hr
    rw[h.1 _ _ r hr];exact he
   ·cases he
  ·cases he
 | m9 x xs =>
  simp only[c9]at he ⊢;rw[<-h.2.2];split at he
  ·split at he
   ·rename_i hg
    rw[if_pos hg];split at he
    ·split at he
     ·rename_i vs gj
      simp only[Option.map_eq_some_iff]at he ⊢;obtain ⟨r,hr,rfl⟩:=he;exact ⟨r,h.1 _ vs r hr,rfl⟩
     ·cases he
    ·simp only[Option.map_eq_some_iff]at he ⊢
     obtain ⟨r,hr,rfl⟩:=he;exact ⟨r,h.2.1 _ _ own r hr,rfl⟩
    ·split at he
     ·rename_i vs gj
      simp only[Option.map_eq_some_iff]at he ⊢;obtain ⟨r,hr,rfl⟩:=he;exact ⟨r,h.1 _ vs r hr,rfl⟩
     ·cases he
   ·cases he
  ·cases he
 | _=>exact he
theorem AgG {C C':Cl} (h:C.le C') {o:AI} {st j7:St} (he:C8 C o st=some j7):C8 C' o st=some j7:=by
 unfold C8 at he ⊢;split at he
 ·simp only[Option.map_eq_some_iff]at he ⊢
  obtain ⟨E,h1,h2⟩:=he;exact ⟨E,Uj h h1,h2⟩
 ·exact he
 ·exact he
theorem O0 {C C':Cl} (h:C.le C') : ∀ {l:List AI} {st j7:St},DB C l st=some j7->DB C' l st=some j7
 | [],st,j7,he=>he
 | o::r,st,j7,he=>by
  simp only[DB]at he ⊢;cases hs:C8 C o st with
  | none=>simp [hs]at he
  | some BA =>
   rw[AgG h hs];simp only[hs]at he;exact O0 h he
theorem JJ {C C':Cl} (h:C.le C') : ∀ {n n':Nat} {k:List It} {st j7:St},n<=n'->run C n k st=some j7->run C' n' k st=some j7:=by
 intro n;induction n with
 | zero=>intro n' k st j7 _ hr;simp [run]at hr
 | succ n ih =>
  intro n' k st j7 hn hr;obtain ⟨q,rfl⟩ : ∃ q,n'=q+1:=⟨n'-1,by omega⟩;have hq:n<=q:=by omega
  cases k with
  | nil=>exact hr
  | cons it k =>
   cases it with
   | e8 id=>simp only[run]at hr ⊢;exact ih hq hr
   | jx ts ss=>simp only[run]at hr ⊢;exact ih hq hr
   | lp c=>simp only[run]at hr ⊢;exact ih hq hr
   | code c =>
    cases c with
    | skip=>simp only[run]at hr ⊢;exact ih hq hr
    | ops l d =>
     simp only[run]at hr ⊢;cases hs:DB C l st with
     | none=>simp [hs]at hr
     | some BA =>
      rw[O0 h hs];simp only[hs]at hr;exact ih hq hr
    | dr c ts ss=>simp only[run]at hr ⊢;exact ih hq hr
    | scope c=>simp only[run]at hr ⊢;exact ih hq hr
    | seq a b=>simp only[run]at hr ⊢;exact ih hq hr
    | cond x a b =>
     simp only[run]at hr ⊢;split at hr
     ·exact ih hq hr
     ·exact ih hq hr
     ·cases hr
    | block id c=>simp only[run]at hr ⊢;exact ih hq hr
    | loop c=>simp only[run]at hr ⊢;exact ih hq hr
    | exit id =>
     simp only[run]at hr ⊢;split at hr
     ·exact ih hq hr
     ·cases hr
    | ret=>exact hr
theorem V9 {I I':List AV->Option (AV × AH)} (hI : ∀ vs r,I vs=some r->I' vs=some r) {vs:List AV} {r:AV} (h:H7 I vs=some r):H7 I' vs=some r:=by
 unfold H7 at h ⊢;cases he:I vs with
 | none=>simp [he]at h
 | some x=>rw[hI vs _ he];simpa [he] using h
theorem AfD {b:Bool} {I I':List AV->Option (AV × AH)} (hI : ∀ vs r,I vs=some r->I' vs=some r) {vs:List AV} {r:AV} (h:J8 b I vs=some r):J8 b I' vs=some r:=by
 unfold J8 at h ⊢;split at h
 ·split at h
  ·rename_i r1 r2 h1 h2
   rw[V9 hI h1,V9 hI h2];exact h
  ·cases h
 ·exact V9 hI h
theorem nG : ∀ (n:Nat),(C3 L n).le (C3 L (n+1)):=by
 have gp : ∀ n,(∀ f vs o r,DN L n f vs o=some r->DN L (n+1) f vs o=some r) -> ∀ f vs r,GX L n f vs=some r->GX L (n+1) f vs=some r:=by
  intro n hI f vs r h;exact AfD (λ vs r h=>hI f vs _ r h) h
 intro n;induction n with
 | zero =>
  have : ∀ f vs o r,DN L 0 f vs o=some r->DN L 1 f vs o=some r:=λ f vs o r h=>by simp [DN]at h
  exact ⟨gp 0 this,this,rfl⟩
 | succ n ih =>
  have : ∀ f vs o r,DN L (n+1) f vs o=some r->DN L (n+2) f vs o=some r:=λ f vs o r h=>by
   rw[U7]at h ⊢;cases hL:L f with
   | none=>simp [hL]at h
   | some fn =>
    simp only[hL]at h ⊢;split at h
    ·rename_i hp
     rw[if_pos hp];cases hr:run (C3 L n) n [.code fn.body] ⟨CY 0 vs,o⟩ with
     | none=>simp [hr]at h
     | some st =>
      rw[JJ ih (Nat.le_succ n) hr];simpa [hr] using h
    ·cases h
  exact ⟨gp (n+1) this,this,rfl⟩
theorem E9 {n n':Nat} (h:n<=n'):(C3 L n).le (C3 L n'):=by
 induction h with
 | refl=>exact ⟨λ_ _ _ h=>h,λ_ _ _ _ h=>h,rfl⟩
 | step _ ih=>exact ⟨λ f vs r h=>(nG _).1 f vs r (ih.1 f vs r h),λ f vs o r h=>(nG _).2.1 f vs o r (ih.2.1 f vs o r h),rfl⟩
def Ev (L:Lib) (f:Nat) (vs:List AV) (r:AV):Prop := ∃ n,GX L n f vs=some r
def FL (L:Lib) (f:Nat) (vs:List AV) (r:AV):Prop := ∃ n,H7 (λ vs=>DN L n f vs AH.emp) vs=some r
def GG (L:Lib) (f:Nat) (vs:List AV) (o:AH) (r:AV) (o':AH):Prop := ∃ n,DN L n f vs o=some (r,o')
def O3 (L:Lib) (f:Nat) (vs:List AV) (z:Nat) (es:List (List AV)):Prop := ∃ n,OH (DN L n f vs AH.emp)=some (z,es)
theorem Ev.Ab {f:Nat} {vs:List AV} {r r':AV} (h:Ev L f vs r) (h':Ev L f vs r'):r=r':=by
 obtain ⟨n,hn⟩:=h;obtain ⟨n',qf⟩:=h';have h1:=(E9 (L:=L) (Nat.le_max_left n n')).1 f vs r hn;have h2:=(E9 (L:=L) (Nat.le_max_right n n')).1 f vs r' qf;rw[h1]at h2;exact Option.some.inj h2
theorem GG.Ab {f:Nat} {vs:List AV} {o:AH} {r r':AV} {o1 o2:AH} (h:GG L f vs o r o1) (h':GG L f vs o r' o2):r=r'/\o1=o2:=by
 obtain ⟨n,hn⟩:=h;obtain ⟨n',qf⟩:=h';have h1:=(E9 (L:=L) (Nat.le_max_left n n')).2.1 f vs o _ hn;have h2:=(E9 (L:=L) (Nat.le_max_right n n')).2.1 f vs o _ qf;rw[h1]at h2;simpa using h2
def AK (L:Lib) (k:List It) (st:St) (Q:St->Prop):Prop := ∃ n c j7,run (C3 L c) n k st=some j7/\Q j7
def AO (L:Lib) (l:List AI) (k:List It) (st:St) (Q:St->Prop):Prop := ∃ n c BA j7,DB (C3 L c) l st=some BA/\run (C3 L c) n k BA=some j7/\Q j7
variable {k:List It} {st:St} {Q:St->Prop}
theorem JQ {it:It} {k':List It} {BA:St} (h : ∀ (C:Cl) (n:Nat),run C (n+1) (it::k) st=run C n k' BA):AK L (it::k) st Q↔AK L k' BA Q:=by
 constructor
 ·rintro ⟨n,c,j7,hr,hq⟩
  cases n with
  | zero=>simp [run]at hr
  | succ n=>exact ⟨n,c,j7,by rw[<-h];exact hr,hq⟩
 ·rintro ⟨n,c,j7,hr,hq⟩
  exact ⟨n+1,c,j7,by rw[h];exact hr,hq⟩
theorem vU:AK L [] st Q↔Q st:=by
 constructor
 ·rintro ⟨n,c,j7,hr,hq⟩
  cases n with
  | zero=>simp [run]at hr
  | succ n=>simp only[run,Option.some.injEq]at hr;exact hr ▸ hq
 ·exact λ h=>⟨1,0,st,rfl,h⟩
theorem vM {id:Nat}:AK L (.e8 id::k) st Q↔AK L k st Q:=JQ λ_ _=>rfl
theorem vQ {ts ss:List Nat}:AK L (.jx ts ss::k) st Q↔AK L k ⟨y7 st.tm ts,st.own.drop ss⟩ Q:=JQ λ_ _=>rfl
theorem iK {c:BI}:AK L (.lp c::k) st Q↔AK L (.code c :: .lp c::k) st Q:=JQ λ_ _=>rfl
theorem vZ:AK L (.code .skip::k) st Q↔AK L k st Q:=JQ λ_ _=>rfl
theorem vP {c:BI} {ts ss:List Nat}:AK L (.code (.dr c ts ss)::k) st Q↔AK L (.code c :: .jx ts ss::k) st Q:=JQ λ_ _=>rfl
theorem vX {c:BI}:AK L (.code (.scope c)::k) st Q↔AK L (.code c::k) st Q:=JQ λ_ _=>rfl
theorem vY {a b:BI}:AK L (.code (.seq a b)::k) st Q↔AK L (.code a :: .code b::k) st Q:=JQ λ_ _=>rfl
theorem vN {id:Nat} {c:BI}:AK L (.code (.block id c)::k) st Q↔AK L (.code c :: .e8 id::k) st Q:=JQ λ_ _=>rfl
theorem vS {c:BI}:AK L (.code (.loop c)::k) st Q↔AK L (.code c :: .lp c::k) st Q:=JQ λ_ _=>rfl
theorem vR {id:Nat} {k':List It} (h:DW id k=some k'):AK L (.code (.exit id)::k) st Q↔AK L k' st Q:=JQ λ C n=>by simp [run,h]
theorem vW:AK L (.code .ret::k) st Q↔Q st:=by
 constructor
 ·rintro ⟨n,c,j7,hr,hq⟩
  cases n with
  | zero=>simp [run]at hr
  | succ n=>simp only[run,Option.some.injEq]at hr;exact hr ▸ hq
 ·exact λ h=>⟨1,0,st,rfl,h⟩
theorem vO {x:AP} {a b:BI} {t:Bool} (h:st.ev x = .bool t):AK L (.code (.cond x a b)::k) st Q↔if t=true then AK L (.code a::k) st Q else AK L (.code b::k) st Q:=by
 cases t
 ·simpa using JQ (k' := .code b::k) (BA:=st) λ C n=>by simp [run,h]
 ·simpa using JQ (k' := .code a::k) (BA:=st) λ C n=>by simp [run,h]
theorem vV {l:List AI} {d:Bool}:AK L (.code (.ops l d)::k) st Q↔AO L l k st Q:=by
 constructor
 ·rintro ⟨n,c,j7,hr,hq⟩
  cases n with
  | zero=>simp [run]at hr
  | succ n =>
   simp only[run]at hr;split at hr
   ·rename_i BA hs
    exact ⟨n,c,BA,j7,hs,hr,hq⟩
   ·cases hr
 ·rintro ⟨n,c,BA,j7,hs,hr,hq⟩
  exact ⟨n+1,c,j7,by simp [run,hs,hr],hq⟩
theorem wI:AO L [] k st Q↔AK L k st Q:=by
 constructor
 ·rintro ⟨n,c,BA,j7,hs,hr,hq⟩
  simp only[DB,Option.some.injEq]at hs;exact ⟨n,c,j7,hs ▸ hr,hq⟩
 ·rintro ⟨n,c,j7,hr,hq⟩
  exact ⟨n,c,st,j7,rfl,hr,hq⟩
theorem wL {o:AI} {l:List AI} {BA:St} (h : ∀ C,C8 C o st=some BA):AO L (o::l) k st Q↔AO L l k BA Q:=by
 constructor
 ·rintro ⟨n,c,BV,j7,hs,hr,hq⟩
  simp only[DB,h]at hs;exact ⟨n,c,BV,j7,hs,hr,hq⟩
 ·rintro ⟨n,c,BV,j7,hs,hr,hq⟩
  exact ⟨n,c,BV,j7,by simpa only[DB,h] using hs,hr,hq⟩
theorem wJ {d:Option Nat} {op:DY} {g:Option (Nat × Bool)} {b9:List Nat} {l:List AI} (h:FE st g=some false):AO L (⟨d,op,g,b9⟩::l) k st Q↔AO L l k (st.dst d (.g7 [])) Q :=
 wL λ C=>by simp [C8,h]
theorem S3 (c:Nat):(C3 L c).num=L.num:=rfl
theorem wK {d:Option Nat} {op:DY} {g:Option (Nat × Bool)} {b9:List Nat} {l:List AI} {E:CB} (h:FE st g=some true) (he : ∀ c,c9 (C3 L c) b9 st.ev st.own op=some E):AO L (⟨d,op,g,b9⟩::l) k st Q↔AO L l k (st.app d E) Q:=by
 have h : ∀ c,C8 (C3 L c) ⟨d,op,g,b9⟩ st=some (st.app d E):=λ c=>by simp [C8,h,he]
 constructor
 ·rintro ⟨n,c,BV,j7,hs,hr,hq⟩
  simp only[DB,h]at hs;exact ⟨n,c,BV,j7,hs,hr,hq⟩
 ·rintro ⟨n,c,BV,j7,hs,hr,hq⟩
  exact ⟨n,c,BV,j7,by simpa only[DB,h] using hs,hr,hq⟩
theorem wA {d:Option Nat} {f:Nat} {xs:List AP} {g:Option (Nat × Bool)} {b9:List Nat} {l:List AI} {vs:List AV} {r:AV} (h:FE st g=some true) (hv:(xs.map st.ev).mapM (C7 (st.own.m4 b9) true)=some vs) (hr:Ev L f vs r) :
  AO L (⟨d,.call f xs,g,b9⟩::l) k st Q↔AO L l k (st.dst d r) Q:=by
 have j6 : ∀ c r',GX L c f vs=some r'->C8 (C3 L c) ⟨d,.call f xs,g,b9⟩ st=some (st.dst d r'):=λ c r' hc=>by
  have u5:(C3 L c).pure f vs=some r':=hc;simp [C8,h,c9,hv,u5,St.app]
 constructor
 ·rintro ⟨n,c,BV,j7,hs,fk,hq⟩
  simp only[DB]at hs;cases hI:C8 (C3 L c) ⟨d,.call f xs,g,b9⟩ st with
  | none=>simp [hI]at hs
  | some BA =>
   simp only[hI]at hs;cases hp:GX L c f vs with
   | none =>
    have u5:(C3 L c).pure f vs=none:=hp;simp [C8,h,c9,hv,u5]at hI
   | some r' =>
    obtain rfl:r'=r:=Ev.Ab ⟨c,hp⟩ hr;rw[j6 c r' hp]at hI;obtain rfl:=Option.some.inj hI;exact ⟨n,c,BV,j7,hs,fk,hq⟩
 ·rintro ⟨n,c,BV,j7,hs,fk,hq⟩
  obtain ⟨c',u5⟩:=hr;have l1:=E9 (L:=L) (Nat.le_max_left c c');have l2:=E9 (L:=L) (Nat.le_max_right c c');refine ⟨n,max c c',BV,j7,?_,JJ l1 (Nat.le_refl n) fk,hq⟩;simp only[DB];rw[j6 (max c c') r (l2.1 f vs r u5)];exact O0 l1 hs
theorem wD {d:Option Nat} {f:Nat} {x:AP} {xs:List AP} {g:Option (Nat × Bool)} {b9:List Nat} {l:List AI} {vs:List AV} {r:AV} (h:FE st g=some true) (hx:st.ev x = .fn true f (L.num f) []) (hv:(xs.map st.ev).mapM (C7 st.own true)=some vs) (hr:Ev L f vs r) :
  AO L (⟨d,.m9 x xs,g,b9⟩::l) k st Q↔AO L l k (st.dst d r) Q:=by
 have j6 : ∀ c r',GX L c f vs=some r'->C8 (C3 L c) ⟨d,.m9 x xs,g,b9⟩ st=some (st.dst d r'):=λ c r' hc=>by
  have u5:(C3 L c).pure f vs=some r':=hc;simp [C8,h,c9,hx,S3,hv,u5,St.app]
 constructor
 ·rintro ⟨n,c,BV,j7,hs,fk,hq⟩
  simp only[DB]at hs;cases hI:C8 (C3 L c) ⟨d,.m9 x xs,g,b9⟩ st with
  | none=>simp [hI]at hs
  | some BA =>
   simp only[hI]at hs;cases hp:GX L c f vs with
   | none =>
    have u5:(C3 L c).pure f vs=none:=hp;simp [C8,h,c9,hx,S3,hv,u5]at hI
   | some r' =>
    obtain rfl:r'=r:=Ev.Ab ⟨c,hp⟩ hr;rw[j6 c r' hp]at hI;obtain rfl:=Option.some.inj hI;exact ⟨n,c,BV,j7,hs,fk,hq⟩
 ·rintro ⟨n,c,BV,j7,hs,fk,hq⟩
  obtain ⟨c',u5⟩:=hr;have l1:=E9 (L:=L) (Nat.le_max_left c c');have l2:=E9 (L:=L) (Nat.le_max_right c c');refine ⟨n,max c c',BV,j7,?_,JJ l1 (Nat.le_refl n) fk,hq⟩;simp only[DB];rw[j6 (max c c') r (l2.1 f vs r u5)];exact O0 l1 hs
theorem wB {d:Option Nat} {f:Nat} {w:AV} {cs:List AV} {x:AP} {xs:List AP} {g:Option (Nat × Bool)} {b9:List Nat} {l:List AI} {vs:List AV} {r:AV} (h:FE st g=some true) (hx:st.ev x = .fn true f (L.num f) (w::cs)) (hv:(AV.agg (w::cs)::xs.map st.ev).mapM (C7 st.own true)=some vs) (hr:Ev L f vs r) :
  AO L (⟨d,.m9 x xs,g,b9⟩::l) k st Q↔AO L l k (st.dst d r) Q:=by
 have j6 : ∀ c r',GX L c f vs=some r'->C8 (C3 L c) ⟨d,.m9 x xs,g,b9⟩ st=some (st.dst d r'):=λ c r' hc=>by
  have u5:(C3 L c).pure f vs=some r':=hc;simp [C8,h,c9,hx,S3,hv,u5,St.app]
 constructor
 ·rintro ⟨n,c,BV,j7,hs,fk,hq⟩
  simp only[DB]at hs;cases hI:C8 (C3 L c) ⟨d,.m9 x xs,g,b9⟩ st with
  | none=>simp [hI]at hs
  | some BA =>
   simp only[hI]at hs;cases hp:GX L c f vs with
   | none =>
    have u5:(C3 L c).pure f vs=none:=hp;simp [C8,h,c9,hx,S3,hv,u5]at hI
   | some r' =>
    obtain rfl:r'=r:=Ev.Ab ⟨c,hp⟩ hr;rw[j6 c r' hp]at hI;obtain rfl:=Option.some.inj hI;exact ⟨n,c,BV,j7,hs,fk,hq⟩
 ·rintro ⟨n,c,BV,j7,hs,fk,hq⟩
  obtain ⟨c',u5⟩:=hr;have l1:=E9 (L:=L) (Nat.le_max_left c c');have l2:=E9 (L:=L) (Nat.le_max_right c c');refine ⟨n,max c c',BV,j7,?_,JJ l1 (Nat.le_refl n) fk,hq⟩;simp only[DB];rw[j6 (max c c') r (l2.1 f vs r u5)];exact O0 l1 hs
theorem wE {d:Option Nat} {f:Nat} {xs:List AP} {g:Option (Nat × Bool)} {b9:List Nat} {l:List AI} {r:AV} (h:FE st g=some true) (hq:(xs.map st.ev).all dq=true) (hr:Ev L f ((xs.map st.ev).map wc) r) (df:JS r\/SJ r) :
  AO L (⟨d,.l9 f xs,g,b9⟩::l) k st Q↔AO L l k (st.dst d (K7 r)) Q:=by
 have j6 : ∀ c,GX L c f ((xs.map st.ev).map wc)=some r->C8 (C3 L c) ⟨d,.l9 f xs,g,b9⟩ st=some (st.dst d (K7 r)):=λ c hc=>by
  have u5:(C3 L c).pure f ((xs.map st.ev).map wc)=some r:=hc;simp only[C8,h,c9];rw[if_pos hq,u5];simp only[if_pos df,Option.map_some,St.app]
 constructor
 ·rintro ⟨n,c,BV,j7,hs,fk,Cs⟩
  simp only[DB]at hs;cases hp:GX L c f ((xs.map st.ev).map wc) with
  | none =>
   have u5:(C3 L c).pure f ((xs.map st.ev).map wc)=none:=hp;simp only[C8,h,c9]at hs;rw[if_pos hq,u5]at hs;simp at hs
  | some r' =>
   obtain rfl:r'=r:=Ev.Ab ⟨c,hp⟩ hr;rw[j6 c hp]at hs;exact ⟨n,c,BV,j7,hs,fk,Cs⟩
 ·rintro ⟨n,c,BV,j7,hs,fk,Cs⟩
  obtain ⟨c',u5⟩:=hr;have l1:=E9 (L:=L) (Nat.le_max_left c c');have l2:=E9 (L:=L) (Nat.le_max_right c c');refine ⟨n,max c c',BV,j7,?_,JJ l1 (Nat.le_refl n) fk,Cs⟩;simp only[DB];rw[j6 (max c c') (l2.1 f _ r u5)];exact O0 l1 hs
theorem wF {d:Option Nat} {s f:Nat} {xs:List AP} {g:Option (Nat × Bool)} {b9:List Nat} {l:List AI} {vs:List AV} {z:Nat} {es:List (List AV)} (h:FE st g=some true) (hv:(xs.map st.ev).mapM (OZ (st.own.m4 b9) true)=some vs) (hr:O3 L f vs z es)
  (ha:AO L l k (st.app d (.new s ⟨z,es⟩ (λ t => .row s t z 0 es.length))) Q):AO L (⟨d,.o9 s f xs,g,b9⟩::l) k st Q:=by
 obtain ⟨n,c,BV,j7,hs,fk,hq⟩:=ha;obtain ⟨c',u5⟩:=hr;have l1:=E9 (L:=L) (Nat.le_max_left c c');have l2:=E9 (L:=L) (Nat.le_max_right c c');have px:OH ((C3 L (max c c')).gp f vs AH.emp)=some (z,es):=jL (l2.2.1 f vs AH.emp) u5;refine ⟨n,max c c',BV,j7,?_,JJ l1 (Nat.le_refl n) fk,hq⟩;simp only[DB];have:C8 (C3 L (max c c')) ⟨d,.o9 s f xs,g,b9⟩ st=some (st.app d (.new s ⟨z,es⟩ (λ t => .row s t z 0 es.length))):=by
  simp only[C8,h,c9,hv,px,Option.map_some]
 rw[this];exact O0 l1 hs
def iS (L:Lib) (s f:Nat) (vs:List AV) (q:CD) (r:AV) (q':CD):Prop := ∃ n,∀ o:AH,o s=q->DN L n f vs o=some (r,o.put s q')
theorem wH {d:Option Nat} {s f:Nat} {xs:List AP} {g:Option (Nat × Bool)} {b9:List Nat} {l:List AI} {r:AV} {q':CD} (h:FE st g=some true) (hr:iS L s f (xs.map st.ev) (st.own s) r q')
  (ha:AO L l k (st.app d (.sv s q' r)) Q):AO L (⟨d,.bg s f xs,g,b9⟩::l) k st Q:=by
 obtain ⟨n,c,BV,j7,hs,fk,hq⟩:=ha;obtain ⟨c',u5⟩:=hr;have l1:=E9 (L:=L) (Nat.le_max_left c c');have l2:=E9 (L:=L) (Nat.le_max_right c c');have px:XW (C3 L (max c c')) f (xs.map st.ev) s (st.own s)=some (r,q'):=XX.2 λ o ho=>l2.2.1 f _ o _ (u5 o ho)
 refine ⟨n,max c c',BV,j7,?_,JJ l1 (Nat.le_refl n) fk,hq⟩;simp only[DB];have:C8 (C3 L (max c c')) ⟨d,.bg s f xs,g,b9⟩ st=some (st.app d (.sv s q' r)):=by
  simp only[C8,h,c9,px,Option.map_some]
 rw[this];exact O0 l1 hs
theorem wC {d:Option Nat} {f:Nat} {xs:List AP} {g:Option (Nat × Bool)} {b9:List Nat} {l:List AI} {r:AV} {o':AH} (h:FE st g=some true) (hr:GG L f (xs.map st.ev) st.own r o') :
  AO L (⟨d,.e9 f xs,g,b9⟩::l) k st Q↔AO L l k { (st.dst d r) with own:=o' } Q:=by
 have j6 : ∀ c r' o1,DN L c f (xs.map st.ev) st.own=some (r',o1)->C8 (C3 L c) ⟨d,.e9 f xs,g,b9⟩ st=some { (st.dst d r') with own:=o1 }:=λ c r' o1 hc=>by
  have u5:(C3 L c).gp f (xs.map st.ev) st.own=some (r',o1):=hc;simp [C8,h,c9,u5,St.app]
 constructor
 ·rintro ⟨n,c,BV,j7,hs,fk,hq⟩
  simp only[DB]at hs;cases hI:C8 (C3 L c) ⟨d,.e9 f xs,g,b9⟩ st with
  | none=>simp [hI]at hs
  | some BA =>
   simp only[hI]at hs;cases hp:DN L c f (xs.map st.ev) st.own with
   | none =>
    have u5:(C3 L c).gp f (xs.map st.ev) st.own=none:=hp;simp [C8,h,c9,u5]at hI
   | some x =>
    obtain ⟨r',o1⟩:=x;obtain ⟨rfl,rfl⟩:=GG.Ab ⟨c,hp⟩ hr;rw[j6 c r' o1 hp]at hI;obtain rfl:=Option.some.inj hI;exact ⟨n,c,BV,j7,hs,fk,hq⟩
 ·rintro ⟨n,c,BV,j7,hs,fk,hq⟩
  obtain ⟨c',u5⟩:=hr;have l1:=E9 (L:=L) (Nat.le_max_left c c');have l2:=E9 (L:=L) (Nat.le_max_right c c');refine ⟨n,max c c',BV,j7,?_,JJ l1 (Nat.le_refl n) fk,hq⟩;simp only[DB];rw[j6 (max c c') r o' (l2.2.1 f _ _ _ u5)];exact O0 l1 hs
theorem wG {d:Option Nat} {f:Nat} {cs:List AV} {x:AP} {xs:List AP} {g:Option (Nat × Bool)} {b9:List Nat} {l:List AI} {r:AV} {o':AH} (h:FE st g=some true) (hx:st.ev x = .fn false f (L.num f) cs) (hr:GG L f (xs.map st.ev++cs) st.own r o') :
  AO L (⟨d,.m9 x xs,g,b9⟩::l) k st Q↔AO L l k { (st.dst d r) with own:=o' } Q:=by
 have j6 : ∀ c r' o1,DN L c f (xs.map st.ev++cs) st.own=some (r',o1)->C8 (C3 L c) ⟨d,.m9 x xs,g,b9⟩ st=some { (st.dst d r') with own:=o1 }:=λ c r' o1 hc=>by
  have u5:(C3 L c).gp f (xs.map st.ev++cs) st.own=some (r',o1):=hc;simp [C8,h,c9,hx,S3,u5,St.app]
 constructor
 ·rintro ⟨n,c,BV,j7,hs,fk,hq⟩
  simp only[DB]at hs;cases hI:C8 (C3 L c) ⟨d,.m9 x xs,g,b9⟩ st with
  | none=>simp [hI]at hs
  | some BA =>
   simp only[hI]at hs;cases hp:DN L c f (xs.map st.ev++cs) st.own with
   | none =>
    have u5:(C3 L c).gp f (xs.map st.ev++cs) st.own=none:=hp;simp [C8,h,c9,hx,S3,u5]at hI
   | some x =>
    obtain ⟨r',o1⟩:=x;obtain ⟨rfl,rfl⟩:=GG.Ab ⟨c,hp⟩ hr;rw[j6 c r' o1 hp]at hI;obtain rfl:=Option.some.inj hI;exact ⟨n,c,BV,j7,hs,fk,hq⟩
 ·rintro ⟨n,c,BV,j7,hs,fk,hq⟩
  obtain ⟨c',u5⟩:=hr;have l1:=E9 (L:=L) (Nat.le_max_left c c');have l2:=E9 (L:=L) (Nat.le_max_right c c');refine ⟨n,max c c',BV,j7,?_,JJ l1 (Nat.le_refl n) fk,hq⟩;simp only[DB];rw[j6 (max c c') r o' (l2.2.1 f _ _ _ u5)];exact O0 l1 hs
theorem vT {Q':St->Prop} (h:AK L k st Q) (hq : ∀ s,Q s->Q' s):AK L k st Q':=by
 obtain ⟨n,c,j7,hr,hh⟩:=h;exact ⟨n,c,j7,hr,hq _ hh⟩
theorem GG.intro {f:Nat} {fn:AFn} {vs:List AV} {o:AH} {r:AV} {o':AH} (hL:L f=some fn) (hp:vs.length=fn.z8) (h:AK L [.code fn.body] ⟨CY 0 vs,o⟩ (λ st=>(fn.res.mapM (E5 st)).map HP=some r/\st.own=o')):GG L f vs o r o':=by
 obtain ⟨n,c,j7,hr,h1,h2⟩:=h;refine ⟨max n c+1,?_⟩;rw[U7];simp only[hL,hp,if_true];rw[JJ (E9 (L:=L) (Nat.le_max_right n c)) (Nat.le_max_left n c) hr];cases hm:fn.res.mapM (E5 j7) with
 | none=>rw[hm]at h1;cases h1
 | some rs =>
  rw[hm]at h1;simp only[Option.map_some,Option.some.injEq]at h1;simp [hm,h1,h2]
theorem FL.intro {f:Nat} {fn:AFn} {vs:List AV} {r:AV} (hL:L f=some fn) (hp:vs.length=fn.z8) (h:AK L [.code fn.body] ⟨CY 0 vs,AH.emp⟩ (λ st=>((fn.res.mapM (E5 st)).map HP).bind (QW st.own false)=some r/\A4 r)):FL L f vs r:=by
 obtain ⟨n,c,j7,hr,h1,h2⟩:=h;cases hm:(fn.res.mapM (E5 j7)).map HP with
 | none=>rw[hm]at h1;cases h1
 | some r0 =>
  rw[hm]at h1;simp only[Option.bind_some]at h1;obtain ⟨q,hq⟩:=GG.intro (o:=AH.emp) (r:=r0) (o':=j7.own) hL hp ⟨n,c,j7,hr,hm,rfl⟩;refine ⟨q,?_⟩;unfold H7;simp [hq,h1,h2]
theorem FL.ev {f:Nat} {fn:AFn} {vs:List AV} {r:AV} (hL:L f=some fn) (h:FL L f vs r) (hs:fn.pf=false:=by rfl):Ev L f vs r:=by
 obtain ⟨n,h⟩:=h;have hs:L.pf f=false:=by simp only[Lib.pf,hL,hs]
 exact ⟨n,by unfold GX J8;rw[hs];exact h⟩
theorem FL.cons {f:Nat} {q:Bool} {e:List AV} {es:List (List AV)} {vs:List AV} {r:AV} (h:FL L f (.sl q (e::es)::vs) r):Ev L f (.sl q (e::es)::vs) r:=by
 obtain ⟨n,h⟩:=h;refine ⟨n,?_⟩;unfold GX J8;split
 ·rename_i heq;simp at heq
 ·exact h
theorem FL.nil {f:Nat} {fn:AFn} {q:Bool} {vs:List AV} {r:AV} (hL:L f=some fn) (h1:FL L f (.cj (.bool true)::vs) r) (h2:FL L f (.cj (.bool false)::vs) r) (hs:fn.pf=true:=by rfl):Ev L f (.sl q []::vs) r:=by
 obtain ⟨n,h1⟩:=h1;obtain ⟨n',h2⟩:=h2;have hs:L.pf f=true:=by simp only[Lib.pf,hL,hs]
 have k1:=V9 (λ vs r h=>(E9 (L:=L) (Nat.le_max_left n n')).2.1 f vs AH.emp r h) h1;have k2:=V9 (λ vs r h=>(E9 (L:=L) (Nat.le_max_right n n')).2.1 f vs AH.emp r h) h2;refine ⟨max n n',?_⟩;unfold GX J8;rw[hs];simp only;have k1':H7 (λ vs=>DN L (max n n') f vs AH.emp) (.cj (.bool true)::vs)=some r:=k1;have k2':H7 (λ vs=>DN L (max n n') f vs AH.emp) (.cj (.bool false)::vs)=some r:=k2;rw[k1',k2'];simp
theorem Ev.intro {f:Nat} {fn:AFn} {vs:List AV} {r:AV} (hL:L f=some fn) (hp:vs.length=fn.z8) (h:AK L [.code fn.body] ⟨CY 0 vs,AH.emp⟩ (λ st=>((fn.res.mapM (E5 st)).map HP).bind (QW st.own false)=some r/\A4 r)) (hs:fn.pf=false:=by rfl):Ev L f vs r :=
 (FL.intro hL hp h).ev hL hs
end
end Go.c5

namespace Go.c5
section
variable {L:Lib} {k:List It} {tm:Tm} {own:AH} {Q:St->Prop} {l:List AI} {b9:List Nat} {d:Nat}
theorem WS (i:Nat) (v:AV) (r:Tm) (j:Nat):g6 ((i,v)::r) j=if j=i then v else g6 r j:=rfl
theorem AgS (j:Nat):g6 [] j = .any:=rfl
theorem AgP (i:Nat) (v:AV) (r:Tm) (l:List Nat):y7 ((i,v)::r) l=if l.contains i then y7 r l else (i,v)::y7 r l:=rfl
theorem AgQ (l:List Nat):y7 [] l=[]:=rfl
theorem Zk (i:Nat) (v:AV) (r:List AV):CY i (v::r)=(i,v)::CY (i+1) r:=rfl
end
end Go.c5

namespace Go.c5
section
variable {L:Lib} {k:List It} {tm:Tm} {own:AH} {st:St} {Q:St->Prop} {l:List AI} {b9:List Nat} {d:Nat} {dst:Option Nat}
section
variable {x y:AP} {kd:IntKind} {a b:Int}
end
def UM (fn:AFn) (r:AV) (st:St):Prop:=((fn.res.mapM (E5 st)).map HP).bind (QW st.own false)=some r/\A4 r
theorem Ev.fwd {f:Nat} {fn:AFn} {vs:List AV} {r:AV} (hL:L f=some fn) (hp:vs.length=fn.z8) (h:AK L [.code fn.body] ⟨CY 0 vs,AH.emp⟩ (UM fn r)) (hs:fn.pf=false:=by rfl):Ev L f vs r:=Ev.intro hL hp h hs
theorem FL.fwd {f:Nat} {fn:AFn} {vs:List AV} {r:AV} (hL:L f=some fn) (hp:vs.length=fn.z8) (h:AK L [.code fn.body] ⟨CY 0 vs,AH.emp⟩ (UM fn r)):FL L f vs r:=FL.intro hL hp h
end
attribute [irreducible] UM
end Go.c5

namespace Go.c5
def pw (n:Int):Int:=2^n.toNat
theorem AfE (n:Int):1<=pw n:=by
 have:0<pw n:=Int.pow_pos (by decide)
 omega
theorem Agm {k2:IntKind} {a n:Int} (h:0<=n/\n<=63):DI .shr .i64 a k2 n=some (.int .i64 (a/pw n)):=by
 have h2:=AfE n;have e:(2:Int)^(min n.toNat IntKind.i64.bits)=pw n:=by
  have:min n.toNat IntKind.i64.bits=n.toNat:=by simp only[IntKind.bits];omega
  rw[this];rfl
 simp only[DI];rw[if_neg (by omega),e,Int.fdiv_eq_ediv_of_nonneg _ (by omega)]
theorem uM {a m:Int} (hm:0<m):a.tmod m=if 0<=a\/a%m=0 then a%m else a%m-m:=by
 have h:=Int.tmod_eq_emod (a:=a) (b:=m);rw[h];have hd:m ∣ a↔a%m=0:=Int.dvd_iff_emod_eq_zero;by_cases h0:0<=a\/a%m=0
 ·rw[if_pos h0,if_pos (by rcases h0 with h0|h0;exact Or.inl h0;exact Or.inr (hd.2 h0))];omega
 ·rw[if_neg h0,if_neg (λ h=>h0 (h.imp id hd.1))]
  have:(m.natAbs:Int)=m:=by omega
  omega
theorem uK {a m:Int} (hm:0<m):a.tdiv m=if 0<=a\/a%m=0 then a/m else a/m+1:=by
 have h:=Int.tdiv_eq_ediv (a:=a) (b:=m);rw[h];have hd:m ∣ a↔a%m=0:=Int.dvd_iff_emod_eq_zero;by_cases h0:0<=a\/a%m=0
 ·rw[if_pos h0,if_pos (by rcases h0 with h0|h0;exact Or.inl h0;exact Or.inr (hd.2 h0))];omega
 ·rw[if_neg h0,if_neg (λ h=>h0 (h.imp id hd.1)),Int.sign_eq_one_of_pos hm]
theorem Vq {a m:Int} (hm:1<=m) (h : -9223372036854775808<=a/\a<=9223372036854775807) : -9223372036854775808<=a/m/\a/m<=9223372036854775807:=by
 constructor
 ·rw[Int.le_ediv_iff_mul_le (by omega)]
  have:=Int.mul_le_mul_of_nonpos_left (a := -9223372036854775808) (b:=m) (c:=1) (by omega) hm
  omega
 ·have:a/m<9223372036854775808:=by
   rw[Int.ediv_lt_iff_lt_mul (by omega)];have:=Int.mul_le_mul_of_nonneg_left (c:=9223372036854775808) (a:=1) (b:=m) hm (by omega)
   omega
  omega
section
variable {L:Lib} {k:List It} {tm:Tm} {own:AH} {Q:St->Prop} {l:List AI} {b9:List Nat} {d:Nat} {x y:AP} {a b n p:Int} {k2:IntKind}
end
end Go.c5

namespace Go.c5
theorem UB (ts:List Nat) (j:Nat) : ∀ tm:Tm,g6 (y7 tm ts) j=if ts.contains j then .any else g6 tm j
 | []=>by simp [AgQ,AgS]
 | (i,u)::r=>by
  rw[AgP];by_cases h:ts.contains i=true
  ·rw[if_pos h,UB ts j r,WS]
   by_cases h2:j=i
   ·subst h2;rw[if_pos h,if_pos h]
   ·rw[if_neg h2]
  ·rw[if_neg h,WS,WS,UB ts j r]
   by_cases h2:j=i
   ·subst h2;rw[if_pos rfl,if_pos rfl,if_neg h]
   ·rw[if_neg h2,if_neg h2]
def PM (j:Nat):List Nat->Bool
 | []=>false
 | i::r=>bif Nat.beq j i then true else PM j r
abbrev TC (n:Int):List AV:=[.int .i64 n]
section
variable {L:Lib} {k:List It} {tm:Tm} {own:AH} {Q:St->Prop} {l:List AI} {b9:List Nat} {d:Nat} {x i:AP} {kd:IntKind} {a:Int} {q:Bool} {α:Type} {es:List α} {enc:α->List AV} {z:Nat}
end
end Go.c5

namespace Go.c5
inductive A7 where
 | bx (cs:List AV)
 | rw (z:Nat) (es:List (List AV))
 | bs (z:Nat) (es:List (List AV))
 | mx (rows:List (Option (Nat × List (List AV))))
 | hx (i:Nat) (v:AV) (rows:List (Option (Nat × List (List AV))))
 | vw (w:List Nat) (rows:List (Option (Nat × List (List AV))))
abbrev Mem:=List (Nat × Nat × A7)
def c6:Mem->Nat->Option (Nat × A7)
 | [],_=>none
 | (k,s,c)::r,j=>bif Nat.beq j k then some (s,c) else c6 r j
def b8 (M:Mem) (k t:Nat):Option A7:=match c6 M k with
 | none=>none
 | some (_,c)=>match t with
  | 0=>some c
  | i+1=>match c with
   | .mx rows=>match rows[i]? with
    | some (some (z,es))=>some (.rw z es)
    | _=>none
   | .hx _ _ rows=>match rows[i]? with
    | some (some (z,es))=>some (.rw z es)
    | _=>none
   | .vw _ rows=>match rows[i]? with
    | some (some (z,es))=>some (.rw z es)
    | _=>none
   | _=>none
def n8 (j:Nat):Mem->Mem
 | []=>[]
 | (k,s,c)::r=>bif Nat.beq j k then n8 j r else (k,s,c)::n8 j r
def tg:Tm->Nat->AV
 | [],_ => .any
 | (i,v)::r,j=>bif Nat.beq j i then v else tg r j
def bit (m i:Nat):Bool:=Nat.beq (Nat.land (Nat.shiftRight m i) 1) 1
def mask:Nat->List Nat->Nat
 | m,[]=>m
 | m,t::ts=>mask (Nat.lor m (Nat.shiftLeft 1 t)) ts
def va (m:Nat):Tm->Tm
 | []=>[]
 | (i,v)::r=>bif bit m i then va m r else (i,v)::va (Nat.lor m (Nat.shiftLeft 1 i)) r
def fN (n:Nat) (K:Nat->Prop):Prop:=match n with
 | 0=>K 0
 | k+1=>K (k+1)
def tc:AV->Bool
 | .int _ _=>true | .bool _=>true | .cj _=>true | .sl _ _=>true | .nil=>true
 | _=>false
def D5:List AV->Bool
 | []=>true
 | v::r=>bif tc v then D5 r else false
def U2:List (List AV)->Bool
 | []=>true
 | v::r=>bif D5 v then U2 r else false
def NX (s:Nat):AV->Bool
 | .row k _ _ _ _=>Nat.beq k s | .ptr k _ _ _=>Nat.beq k s
 | _=>false
def HQ (s:Nat):List AV->Bool
 | []=>false
 | v::r=>bif NX s v then true else HQ s r
def IR (s:Nat):List (List AV)->Bool
 | []=>false
 | v::r=>bif HQ s v then true else IR s r
def PT (s:Nat):AV->Bool
 | .agg cs=>HQ s cs
 | .fn _ _ _ cs=>HQ s cs
 | v=>NX s v
def T4 (s:Nat):List AV->Bool
 | []=>false
 | v::r=>bif PT s v then true else T4 s r
def NY (s:Nat):AV->Bool
 | .g7 vs=>T4 s vs
 | v=>PT s v
def HR (s:Nat):Tm->Bool
 | []=>false
 | (_,v)::r=>bif NY s v then true else HR s r
def G1 (s:Nat):A7->Bool
 | .bx cs=>HQ s cs
 | .rw _ _=>false
 | .bs _ es=>IR s es
 | .mx _=>false
 | .hx _ _ _=>false
 | .vw _ _=>false
def GO (s:Nat):Mem->Bool
 | []=>false
 | (k,_,c)::r=>bif Nat.beq s k then true else bif G1 s c then true else GO s r
def PC (s:Nat):AV->Bool
 | .row k t _ _ _=>bif Nat.beq k s then (match t with|0=>false|_+1=>true) else false
 | .ptr k t _ _=>bif Nat.beq k s then (match t with|0=>false|_+1=>true) else false
 | _=>false
def OL (s:Nat):List AV->Bool
 | []=>false
 | v::r=>bif PC s v then true else OL s r
def RE (s:Nat):AV->Bool
 | .agg cs=>OL s cs
 | .fn _ _ _ cs=>OL s cs
 | v=>PC s v
def SY (s:Nat):List AV->Bool
 | []=>false
 | v::r=>bif RE s v then true else SY s r
def P7 (s:Nat):AV->Bool
 | .g7 vs=>SY s vs
 | v=>RE s v
def I4 (s:Nat):Tm->Bool
 | []=>false
 | (_,v)::r=>bif P7 s v then true else I4 s r
def SZ (s:Nat):List (List AV)->Bool
 | []=>false
 | v::r=>bif OL s v then true else SZ s r
def OK (s:Nat):A7->Bool
 | .bx cs=>OL s cs
 | .bs _ es=>SZ s es
 | _=>false
def HX (s:Nat):Mem->Bool
 | []=>false
 | (_,_,c)::r=>bif OK s c then true else HX s r
def used (k:Nat) (tm:Tm) (M:Mem):Bool:=bif GO k M then true else HR k tm
def Y7 (tm:Tm) (M:Mem):List Nat->(Nat->Prop)->Prop
 | [],_=>False
 | k::r,K=>bif used k tm M then Y7 tm M r K else K k
def FG (s:Nat) (tm:Tm) (M:Mem) (K:Nat->Prop):Prop:=Y7 tm M [s,s+1000000,s+2000000,s+3000000] K
def fL:List AV->(List AV->Prop)->Prop
 | [],K=>K []
 | v::r,K=>fL r λ r'=>K (v::r')
def fV (v:AV) (K:AV->Prop):Prop:=match v with
 | .int k n=>K (.int k n) | .bool b=>K (.bool b) | .sl l es=>K (.sl l es) | .row s t z o n=>K (.row s t z o n)
 | .nil=>K .nil | .ptr s t i j=>K (.ptr s t i j) | .o7 cs=>K (.o7 cs) | .agg cs=>fL cs λ cs=>K (.agg cs)
 | .fn p f g cs=>fL cs λ cs=>K (.fn p f g cs)
 | .g7 vs=>fL vs λ vs=>K (.g7 vs) | .cj c=>K (.cj c) | .any=>False
def fC (v:AV) (K:List AV->Prop):Prop:=match v with
 | .agg cs=>fL cs K
 | .fn _ _ _ _=>False
 | .g7 _=>False
 | .any=>False
 | v=>fV v λ v=>K [v]
def fB (b:Bool) (K:Bool->Prop):Prop:=match b with
 | true=>K true
 | false=>K false
def fT:Tm->(Tm->Prop)->Prop
 | [],K=>K []
 | (i,v)::r,K=>fT r λ r'=>K ((i,v)::r')
def fM:Mem->(Mem->Prop)->Prop
 | [],K=>K []
 | (k,s,c)::r,K=>fM r λ r'=>K ((k,s,c)::r')
def fF (v:AV) (K:AV->Prop):Prop:=match v with
 | .int k n=>K (.int k n) | .bool b=>K (.bool b) | .sl l es=>K (.sl l es) | .row s t z o n=>K (.row s t z o n)
 | .nil=>K .nil | .ptr s t i j=>K (.ptr s t i j) | .cj c=>K (.cj c)|_=>False
def f2 (v:AV) (K:AV->Prop):Prop:=match v with
 | .int k n=>K (.int k n) | .bool b=>K (.bool b) | .sl l es=>K (.sl l es) | .row s t z o n=>K (.row s t z o n)
 | .nil=>K .nil | .ptr s t i j=>K (.ptr s t i j) | .cj c=>K (.cj c) | .agg cs=>fL cs λ cs=>K (.agg cs) | .fn p f g cs=>fL cs λ cs=>K (.fn p f g cs)|_=>False
def nv (agg:Bool) (ds:List AV) (K:AV->Prop):Prop:=match agg with
 | true=>K (.agg ds)
 | false=>match ds with
  | [c]=>fF c K
  | _=>False
def AF (p q A B:Prop):Prop:=(p->A)/\(q->B)
def AM (p A:Prop):Prop:=p/\A
def AC (op:BinOp) (k:IntKind) (a:Int) (k':IntKind) (b:Int) (K:AV->Prop):Prop := ∃ v,DI op k a k' b=some v/\K v
def CI (op:UnOp) (k:IntKind) (n:Int) (K:AV->Prop):Prop := ∃ v,Q0 op (.int k n)=some v/\K v
def AW (k:IntKind) (n:Int) (K:Int->Prop):Prop:=K (k.wrap n)
def AX (es:List (List AV)) (a:Int) (z:Nat) (K:List AV->Prop):Prop:=0<=a /\ ∃ cs,es[a.toNat]? = some cs/\cs.length=z/\K cs
def A5 (es:List (List AV)) (i j n:Nat) (K:List AV->Prop):Prop := ∃ cs ds,es[i]? = some cs/\part cs j n=some ds/\K ds
def A6 (es:List (List AV)) (i j:Nat) (vs:List AV) (K:List (List AV)->Prop):Prop := ∃ cs,es[i]? = some cs/\j+vs.length<=cs.length/\K (es.set i (splice cs j vs))
def B3 (a b:Int) (bytes:Nat) (zero:List AV) (K:List (List AV)->Nat->Prop):Prop:=(0<=a/\a<=b/\b*bytes<=DP/\b<=9223372036854775807)/\K (List.replicate a.toNat zero) a.toNat
def AQ (es:List (List AV)) (K:Nat->Prop):Prop:=K es.length
def BS (es:List (List AV)) (len:Nat) (ys:List (List AV)) (z bytes:Nat) (K:List (List AV)->Nat->Prop):Prop :=
 len<=es.length/\(∀ e∈ys,e.length=z)/\(len+ys.length)*bytes<=DP/\len+ys.length<=9223372036854775807/\K (es.take len++ys) (len+ys.length)
def B7 (ys:List (List AV)) (z bytes:Nat) (K:List (List AV)->Nat->Prop):Prop :=
 (∀ e∈ys,e.length=z)/\ys.length*bytes<=DP/\ys.length<=9223372036854775807/\K ys ys.length
def C5 (es:List (List AV)) (off len:Nat) (ys:List (List AV)) (z:Nat) (K:List (List AV)->Nat->Prop):Prop :=
 off+len<=es.length/\(∀ e∈ys,e.length=z)/\K (es.take off++ys.take len++es.drop (off+min ys.length len)) (min ys.length len)
def BQ (es:List (List AV)) (off len:Nat) (K:List (List AV)->Prop):Prop:=off+len<=es.length/\K ((es.drop off).take len)
def FJ:List AV->Bool
 | []=>true
 | v::r=>match v with
  | .int _ _=>FJ r | .bool _=>FJ r | .cj _=>FJ r | .sl _ _=>FJ r
  | _=>false
def nl:AV->AV
 | .nil => .sl false []
 | v=>v
def LZ:List AV->Bool
 | []=>true
 | v::r=>match v with
  | .int _ _=>LZ r | .bool _=>LZ r | .cj _=>LZ r | .sl _ _=>LZ r | .nil=>LZ r
  | _=>false
def A2 (es:List (List AV)) (off len:Nat) (K:List (List AV)->Prop):Prop:=off+len<=es.length/\(∀ e∈es,LZ e=true)/\K (((es.drop off).take len).map λ e=>e.map nl)
def BN (rows:List (Option (Nat × List (List AV)))) (i:Nat) (K:Option (Nat × List (List AV))->Prop):Prop := ∃ r,rows[i]? = some r/\K r
def BG (rows:List (Option (Nat × List (List AV)))) (i:Nat) (K:Nat->List (List AV)->Prop):Prop := ∃ z es,rows[i]? = some (some (z,es))/\K z es
def CH (rows:List (Option (Nat × List (List AV)))) (i z:Nat) (es:List (List AV)) (K:List (Option (Nat × List (List AV)))->Prop):Prop:=i<rows.length/\K (rows.set i (some (z,es)))
def CM (rows:List (Option (Nat × List (List AV)))) (i z:Nat) (es es':List (List AV)) (K:List (Option (Nat × List (List AV)))->Prop):Prop:=es'.length=es.length/\K (rows.set i (some (z,es')))
def CT (a b:Int) (bytes:Nat) (K:List (Option (Nat × List (List AV)))->Nat->Prop):Prop:=(0<=a/\a<=b/\b*bytes<=DP/\b<=9223372036854775807)/\K (List.replicate a.toNat none) a.toNat
def CP (rows:List (Option (Nat × List (List AV)))) (len:Nat) (r:Option (Nat × List (List AV))) (bytes:Nat) (K:List (Option (Nat × List (List AV)))->Nat->Prop):Prop :=
 len=rows.length/\(len+1)*bytes<=DP/\len+1<=9223372036854775807/\K (rows++[r]) (len+1)
def QU (q:Bool):List (Option (Nat × List (List AV)))->List (List AV)
 | []=>[]
 | none::r=>[.sl false []]::QU q r
 | some (_,es)::r=>[.sl q es]::QU q r
def CE (q:Bool) (rows:List (Option (Nat × List (List AV)))) (off len:Nat) (K:List (List AV)->Prop):Prop :=
 off=0/\len=rows.length/\(∀ z es,some (z,es)∈rows -> ∀ e∈es,FJ e=true)/\K (QU q rows)
def BO (lo hi:Option Int) (len:Nat) (K:Nat->Nat->Prop):Prop :=
 ∃ a h:Nat,(match lo with|none=>a=0|some x=>0<=x/\a=x.toNat)/\(match hi with|none=>h=len|some x=>0<=x/\x<=len/\h=x.toNat)/\a<=h/\K a h
def B9 (z:Nat) (es:List (List AV)) (lo hi:Option Int) (K:List (List AV)->Prop):Prop:=(∀ e∈es,e.length=z)/\BO lo hi es.length λ a h=>K ((es.take h).drop a)
def AB (L:Lib) (f:Nat) (vs:List AV) (K:AV->Prop):Prop := ∃ r,Ev L f vs r/\K r
def KE (n:Nat) (cs ds:List AV) (K:Bool->Prop):Prop := ∃ a b,HO cs=some a/\HO ds=some b/\a.length=n/\b.length=n/\K (decide (a=b))
def YQ:List AV->Bool
 | []=>true
 | .int _ _::r=>YQ r
 | _=>false
def CK (L:Lib) (f:Nat) (vs:List AV) (K:Nat->List (List AV)->Nat->Prop):Prop := ∃ z es n,O3 L f vs z es/\n=es.length/\K z es n
abbrev FH:=Nat->Nat->Nat × Nat
def BA (σ:FH):AV->AV
 | .row k t z o n => .row (σ k t).1 (σ k t).2 z o n
 | .ptr k t i j => .ptr (σ k t).1 (σ k t).2 i j
 | v=>v
def BV (σ:FH):AV->AV
 | .agg cs => .agg (cs.map (BA σ))
 | .fn p f g cs => .fn p f g (cs.map (BA σ))
 | v=>BA σ v
def BH (σ:FH):AV->AV
 | .g7 vs => .g7 (vs.map (BV σ))
 | v=>BV σ v
def B5 (σ:FH) (k:Nat):Nat->List (Option (Nat × List (List AV)))->List (List AV)
 | _,[]=>[]
 | i,none::r=>[.nil]::B5 σ k (i+1) r
 | i,some (z,es)::r=>[.row (σ k (i+1)).1 (σ k (i+1)).2 z 0 es.length]::B5 σ k (i+1) r
def A7.e8 (σ:FH) (k:Nat):A7->DT
 | .bx cs=>⟨cs.length,[cs.map (BA σ)]⟩
 | .rw z es=>⟨z,es⟩
 | .bs z es=>⟨z,es.map λ cs=>cs.map (BA σ)⟩
 | .mx rows=>⟨1,B5 σ k 0 rows⟩
 | .hx i v rows=>⟨1,(B5 σ k 0 rows).set i [v]⟩
 | .vw w rows=>⟨1,w.map λ t=>((B5 σ k 0 rows)[t]?).getD []⟩
def A7.mu:A7->Bool
 | .bx _=>false
 | _=>true
def EN (s:Nat):Bool:=Nat.blt s 900000
structure JU (σ:FH) (own:AH) (M:Mem):Prop where
 site : ∀ k s c,c6 M k=some (s,c)->(σ k 0).1=s
 e8 : ∀ k t c,b8 M k t=some c->(own (σ k t).1).e8 (σ k t).2=some (c.e8 σ k)
 old : ∀ k t c,b8 M k t=some c->(σ k t).2<(own (σ k t).1).g9
 inj : ∀ k t k' t' c c',b8 M k t=some c->b8 M k' t'=some c'->σ k t=σ k' t'->k=k'/\t=t'
 low : ∀ k t c,b8 M k t=some c->c.mu=true->EN (σ k t).1=true
structure RX (σ:FH) (tm:Tm) (M:Mem) (st:St):Prop where
 tm : ∀ j,tg tm j = .any\/g6 st.tm j=BH σ (tg tm j)
 sat:JU σ st.own M
def SQ (Q:Tm->Mem->Prop) (st:St):Prop := ∃ σ tm M,RX σ tm M st/\Q tm M
def AA (L:Lib) (k:List It) (tm:Tm) (M:Mem) (Q:Tm->Mem->Prop):Prop := ∀ σ st,RX σ tm M st->AK L k st (SQ Q)
def iL (L:Lib) (l:List AI) (k:List It) (tm:Tm) (M:Mem) (Q:Tm->Mem->Prop):Prop := ∀ σ st,RX σ tm M st->AO L l k st (SQ Q)
def A9 (L:Lib) (f:Nat) (vs:List AV) (tm:Tm) (M:Mem) (K:AV->Mem->Prop):Prop :=
 ∀ σ own,JU σ own M -> ∃ r l8 σ' M',GG L f (vs.map (BH σ)) own (BH σ' r) l8/\JU σ' l8 M'/\(∀ j,BH σ' (tg tm j)=BH σ (tg tm j))/\K r M'
def wP (L:Lib) (s f key:Nat) (rest:List AV) (M:Mem) (K:AV->Mem->Prop):Prop :=
 ∃ (cells fo:List AV) (kd:IntKind) (n:Int),c6 M key=some (s,.bx cells)/\D5 cells=true/\D5 fo=true/\(∀ (t:Nat) (q:CD),q.e8 t=some ⟨cells.length,[cells]⟩->iS L s f (.ptr s t 0 0::rest) q (.int kd n) (q.n6 t (some ⟨fo.length,[fo]⟩)))/\K (.int kd n) ((key,s,.bx fo)::M)
def cv:AV->AV
 | .agg cs=>bif D5 cs then .agg cs else .any
 | .g7 [] => .g7 []
 | .o7 _ => .any
 | .fn p f g [] => .fn p f g []
 | v=>bif tc v then v else .any
def ex (tm:Tm):AP->AV
 | .t n=>tg tm n
 | .c v=>cv v
def kq (k k':IntKind):Bool:=decide (k=k')
def aP (op:BinOp) (k:IntKind) (a:Int) (k':IntKind) (b:Int) (K:AV->Prop):Prop:=match op with
 | .lss=>bif kq k k' then AF (a<b) (b<=a) (K (.bool true)) (K (.bool false)) else False
 | .leq=>bif kq k k' then AF (a<=b) (b<a) (K (.bool true)) (K (.bool false)) else False
 | .gtr=>bif kq k k' then AF (b<a) (a<=b) (K (.bool true)) (K (.bool false)) else False
 | .geq=>bif kq k k' then AF (b<=a) (a<b) (K (.bool true)) (K (.bool false)) else False
 | .eql=>bif kq k k' then AF (a=b) (a≠b) (K (.bool true)) (K (.bool false)) else False
 | .neq=>bif kq k k' then AF (a≠b) (a=b) (K (.bool true)) (K (.bool false)) else False
 | op=>AC op k a k' b K
noncomputable def RT (mx:Bool) (k:IntKind) (K:AV->Prop) (a:Int) (l:List AV):Prop :=
 List.rec (motive:=λ_=>Int->Prop) (λ a=>K (.int k a)) (λ v _ ih a=>match v with
  | .int _ b=>bif mx then AF (a<b) (b<=a) (ih b) (ih a) else AF (b<a) (a<=b) (ih b) (ih a)
  | _=>False) l a
def xu:List AV->Nat->AV
 | [],_ => .any
 | v::_,0=>v
 | _::r,n+1=>xu r n
def QQ (s:Nat):List Nat->Bool
 | []=>true
 | b9 => !(PM s b9)
def RU:List Nat->Bool
 | []=>true
 | s::r=>bif EN s then false else RU r
def fZ (M:Mem) (k t:Nat) (K:Nat->List (List AV)->Prop):Prop:=match c6 M k with
 | some (_,c)=>match t with
  | 0=>match c with
   | .rw z es=>K z es
   | _=>False
  | i+1=>match c with
   | .mx rows=>BG rows i K
   | _=>False
 | none=>False
def U5 (M:Mem) (v:AV) (K:List (List AV)->Prop):Prop:=match v with
 | .sl _ es=>K es
 | .nil=>K []
 | .cj (.bool _)=>K []
 | .row key t z off len=>fZ M key t λ z' es=>bif Nat.beq z z' then BQ es off len K else False
 | _=>False
def R8 (q:Bool) (M:Mem) (b9:List Nat) (v:AV) (K:AV->Prop):Prop:=match v with
 | .int k n=>K (.int k n)
 | .bool b=>K (.bool b)
 | .sl l es=>K (.sl l es)
 | .cj c=>K (.cj c)
 | .nil=>K (.sl false [])
 | .row key t z off len=>match c6 M key with
  | some (s,.rw z' es)=>match t with
   | 0=>bif Nat.beq z z' then bif QQ s b9 then A2 es off len λ es=>K (.sl q es) else False else False
   | _+1=>False
  | some (_,.mx rows)=>match t with
   | 0=>False
   | i+1=>match b9 with
    | []=>BG rows i λ z' es=>bif Nat.beq z z' then A2 es off len λ es=>K (.sl q es) else False
    | b::r=>bif RU (b::r) then BG rows i λ z' es=>bif Nat.beq z z' then A2 es off len λ es=>K (.sl q es) else False else False
  | _=>False
 | _=>False
noncomputable def ZR (q:Bool) (M:Mem) (b9:List Nat) (l:List AV):(List AV->Prop)->Prop :=
 List.rec (motive:=λ_=>(List AV->Prop)->Prop) (λ K=>K []) (λ v _ ih K=>R8 q M b9 v λ v'=>ih λ r'=>K (v'::r')) l
noncomputable def gO (q:Bool) (M:Mem) (b9:List Nat) (l:List (List AV)):(List (List AV)->Prop)->Prop :=
 List.rec (motive:=λ_=>(List (List AV)->Prop)->Prop) (λ K=>K []) (λ v _ ih K=>ZR q M b9 v λ v'=>ih λ r'=>K (v'::r')) l
noncomputable def WK (q:Bool) (M:Mem) (b9:List Nat) (v:AV) (K:AV->Prop):Prop:=match v with
 | .row key 0 z off len=>match c6 M key with
  | some (s,.bs z' es)=>bif Nat.beq z z' then bif QQ s b9 then bif Nat.beq off 0 then AM (len=es.length) (gO q M b9 es λ es=>K (.sl q es)) else False else False else False
  | some (_,.mx rows)=>match b9 with
   | []=>bif Nat.beq z 1 then CE q rows off len λ es=>K (.sl q es) else False
   | _::_=>False
  | _=>R8 q M b9 (.row key 0 z off len) K
 | v=>R8 q M b9 v K
noncomputable def gP (q:Bool) (M:Mem) (b9:List Nat) (l:List AV):(List AV->Prop)->Prop :=
 List.rec (motive:=λ_=>(List AV->Prop)->Prop) (λ K=>K []) (λ v _ ih K=>WK q M b9 v λ v'=>ih λ r'=>K (v'::r')) l
noncomputable def PW (q:Bool) (M:Mem) (b9:List Nat) (v:AV) (K:AV->Prop):Prop:=match v with
 | .agg cs=>gP q M b9 cs λ cs=>K (.agg cs)
 | v=>WK q M b9 v K
noncomputable def WL (tm:Tm) (M:Mem) (b9:List Nat) (l:List AP):(List AV->Prop)->Prop :=
 List.rec (motive:=λ_=>(List AV->Prop)->Prop) (λ K=>K []) (λ x _ ih K=>PW true M b9 (ex tm x) λ v=>ih λ vs=>K (v::vs)) l
noncomputable def ZS (M:Mem) (b9:List Nat) (v:AV) (K:AV->Prop):Prop:=match v with
 | .nil=>K .nil
 | v=>PW true M b9 v K
noncomputable def gQ (tm:Tm) (M:Mem) (b9:List Nat) (l:List AP):(List AV->Prop)->Prop :=
 List.rec (motive:=λ_=>(List AV->Prop)->Prop) (λ K=>K []) (λ x _ ih K=>ZS M b9 (ex tm x) λ v=>ih λ vs=>K (v::vs)) l
noncomputable def TG (tm:Tm) (l:List AP):(List AV->Prop)->Prop :=
 List.rec (motive:=λ_=>(List AV->Prop)->Prop) (λ K=>K []) (λ x _ ih K=>fV (ex tm x) λ v=>ih λ vs=>K (v::vs)) l
def Y3 (tm:Tm) (o:Option AP) (K:Option Int->Prop):Prop:=match o with
 | none=>K none
 | some x=>match ex tm x with
  | .int _ n=>K (some n)
  | _=>False
def VW (es:List (List AV)) (K:Nat->Prop):Prop:=match es with
 | []=>K 0
 | [_]=>K 1
 | [_,_]=>K 2
 | [_,_,_]=>K 3
 | [_,_,_,_]=>K 4
 | es=>K es.length
noncomputable def aS (tm:Tm) (z:Nat) (l:List AP):(List (List AV)->Prop)->Prop :=
 List.rec (motive:=λ_=>(List (List AV)->Prop)->Prop) (λ K=>K []) (λ x _ ih K=>fC (ex tm x) λ cs=>bif Nat.beq cs.length z then ih λ es=>K (cs::es) else False) l
noncomputable def cS (tm:Tm) (ps:List (Nat × Nat × AP)):List AV->(List AV->Prop)->Prop :=
 List.rec (motive:=λ_=>List AV->(List AV->Prop)->Prop) (λ cells K=>K cells) (λ p _ ih cells K=>fC (ex tm p.2.2) λ vs=>bif Nat.beq vs.length p.2.1 then bif Nat.ble (p.1+p.2.1) cells.length then fL (splice cells p.1 vs) λ cells=>ih cells K else False else False) ps
def QD (tm:Tm):List AP->List AV
 | []=>[]
 | x::r=>ex tm x::QD tm r
def Q9 (tb:List Nat) (n:Int) (K:Nat->Prop):Prop:=0<=n /\ ∃ v,tb[n.toNat]? = some v/\K v
noncomputable def eH (tm:Tm) (l:List AP):(List AV->Prop)->Prop :=
 List.rec (motive:=λ_=>(List AV->Prop)->Prop) (λ K=>K []) (λ x _ ih K=>fF (ex tm x) λ v=>ih λ cs=>K (v::cs)) l
def eN:AV->Bool
 | .agg _=>false | .fn _ _ _ _=>false | .g7 _=>false | .any=>false
 | _=>true
def V3:List AV->Bool
 | []=>true
 | v::r=>bif eN v then V3 r else false
def RA (M:Mem) (v:AV):Option (Nat × Option (Nat × Nat × Nat)):=match v with
 | .row ky 0 1 0 1=>match c6 M ky with
  | some (_,.bs 1 [[.row k2 0 z 0 n]])=>some (ky,some (k2,z,n))
  | some (_,.rw 1 [[.nil]])=>some (ky,none)
  | _=>none
 | _=>none
def VU (z:Nat):List (List AV)->Bool
 | []=>true
 | e::r=>bif Nat.beq e.length z then VU z r else false
def aM (tm:Tm) (M:Mem) (s z bytes:Nat) (x y:AP) (K:AV->Mem->Prop):Prop:=match ex tm y with
 | .row ky 0 zy 0 ny=>match c6 M ky with
  | some (_,.bs z2 jy)=>bif Nat.beq zy z then bif Nat.beq z2 z then bif Nat.beq ny jy.length then bif VU z jy then (match ex tm x with
   | .nil=>bif EN s then VW jy λ n=>AM (n*bytes<=140737488355328/\n<=9223372036854775807) (FG s tm M λ k=>K (.row k 0 z 0 n) ((k,s,.bs z jy)::M)) else False
   | .row kx 0 zx 0 len=>bif Nat.beq zx z then (match c6 M kx with
    | some (s',.bs z1 vb)=>bif Nat.beq z1 z then bif Nat.beq len vb.length then fM (n8 kx M) λ M'=>VW (vb++jy) λ n=>AM (n*bytes<=140737488355328/\n<=9223372036854775807) (FG s tm M λ k=>K (.row k 0 z 0 n) ((k,s',.bs z (vb++jy))::M')) else False else False
    | _=>False) else False
   | _=>False) else False else False else False else False
  | _=>False
 | _=>False
def gZ (tm:Tm) (M:Mem) (K:AV->Mem->Prop) (n:Nat) (x v:AP):Prop:=match ex tm x with
 | .ptr key t i j=>fC (ex tm v) λ vs=>bif Nat.beq vs.length n then (match c6 M key with
  | some (s,c)=>match t with
   | 0=>match c with
    | .bx cs=>bif Nat.beq i 0 then bif Nat.ble (j+vs.length) cs.length then fL (splice cs j vs) λ dw=>K (.g7 []) ((key,s,.bx dw)::M) else False else False
    | .rw z es=>bif D5 vs then A6 es i j vs λ es'=>K (.g7 []) ((key,s,.rw z es')::M) else False
    | .bs _ _=>False
    | .mx rows=>match vs with
     | [.row v3 0 z 0 m]=>bif Nat.beq key v3 then False else bif I4 key tm then False else bif HX key M then False else bif Nat.beq j 0 then (match c6 M v3 with
      | some (_,.rw z' es)=>bif Nat.beq z z' then fM (n8 v3 M) λ M'=>AM (m=es.length) (CH rows i z es λ o4=>K (.g7 []) ((key,s,.mx o4)::M')) else False
      | _=>False) else False
     | [.row v3 (t2+1) z 0 m]=>bif Nat.beq key v3 then bif Nat.beq j 0 then BG rows t2 λ z' es=>bif Nat.beq z z' then AM (m=es.length/\i<rows.length) (K (.g7 []) ((key,s,.vw ((List.range rows.length).set i t2) rows)::M)) else False else False else False
     | _=>False
    | .hx i0 _ rows=>match vs with
     | [.row v3 0 z 0 m]=>bif Nat.beq key v3 then False else bif I4 key tm then False else bif HX key M then False else bif Nat.beq j 0 then (match c6 M v3 with
      | some (_,.rw z' es)=>bif Nat.beq z z' then fM (n8 v3 M) λ M'=>AM (i=i0/\m=es.length) (CH rows i z es λ o4=>K (.g7 []) ((key,s,.mx o4)::M')) else False
      | _=>False) else False
     | _=>False
    | .vw w rows=>match vs with
     | [.row v3 (t2+1) z 0 m]=>bif Nat.beq key v3 then bif Nat.beq j 0 then BG rows t2 λ z' es=>bif Nat.beq z z' then AM (m=es.length/\i<w.length /\ ∀ t∈w,t<rows.length) (K (.g7 []) ((key,s,.vw (w.set i t2) rows)::M)) else False else False else False
     | _=>False
   | i'+1=>match c with
    | .mx rows=>bif D5 vs then BG rows i' λ z es=>A6 es i j vs λ es'=>CM rows i' z es es' λ o4=>K (.g7 []) ((key,s,.mx o4)::M) else False
    | _=>False
  | none=>False) else False
 | _=>False
def BU (r:AV) (K:AV->Prop):Prop:=(JS r\/SJ r)/\K (K7 r)
noncomputable def XE (L:Lib) (tm:Tm) (M:Mem) (b9:List Nat) (K:AV->Mem->Prop):DY->Prop
 | .b7 x=>fV (ex tm x) λ v=>K v M
 | .s9 s z=>bif EN s then FG s tm M λ k=>K (.row k 0 z 0 0) ((k,s,.rw z [])::M) else False
 | .pick c a b=>match ex tm c with
  | .bool true=>fV (ex tm a) λ v=>K v M
  | .bool false=>fV (ex tm b) λ v=>K v M
  | _=>False
 | .bin op x y=>match ex tm x,ex tm y with
  | .int k a,.int k' b=>aP op k a k' b λ v=>K v M
  | _,_=>False
 | .qh ne n x y=>match ex tm x,ex tm y with
  | .agg cs,.agg ds=>KE n cs ds λ b=>fB (bif ne then !b else b) λ c=>K (.bool c) M
  | _,_=>False
 | .beq ne x y=>match ex tm x,ex tm y with
  | .bool a,.bool b=>fB (bif ne then !(a == b) else a == b) λ c=>K (.bool c) M
  | _,_=>False
 | .un op x=>match ex tm x with
  | .int k n=>CI op k n λ v=>K v M
  | .bool b=>match op with
   | .not=>fB (!b) λ c=>K (.bool c) M
   | _=>False
  | _=>False
 | .conv k x=>match ex tm x with
  | .int _ n=>AW k n λ v=>K (.int k v) M
  | _=>False
 | .box s x=>fC (ex tm x) λ cs=>FG s tm M λ k=>K (.ptr k 0 0 0) ((k,s,.bx cs)::M)
 | .alloc s zero=>bif D5 zero then (FG s tm M λ k=>K (.ptr k 0 0 0) ((k,s,.bx zero)::M)) else False
 | .build zero parts=>bif D5 zero then cS tm parts zero λ cs=>K (.agg cs) M else False
 | .c7 s z parts=>bif EN s then aS tm z parts λ es=>VW es λ n=>FG s tm M λ k=>bif U2 es then K (.row k 0 z 0 n) ((k,s,.rw z es)::M) else K (.row k 0 z 0 n) ((k,s,.bs z es)::M) else False
 | .a6 x off=>match ex tm x with
  | .ptr key t i j=>K (.ptr key t i (j+off)) M
  | .o7 cs=>fL (cs.drop off) λ cs=>K (.o7 cs) M
  | _=>False
 | .nc x off n agg=>match ex tm x with
  | .agg cs=>match part cs off n with
   | some ds=>fL ds λ ds=>nv agg ds λ v=>K v M
   | none=>False
  | _=>False
 | .a5 arr z x i=>match ex tm i with
  | .int _ n=>match arr,ex tm x with
   | some len,.ptr key t i' j=>AM (0<=n/\n<(len:Int)) (K (.ptr key t i' (j+n.toNat*z)) M)
   | some len,.o7 cs=>AM (0<=n/\n<(len:Int)) (fL (cs.drop (n.toNat*z)) λ cs=>K (.o7 cs) M)
   | none,.row key t z' off len=>bif Nat.beq z' z then AM (0<=n/\n<(len:Int)) (K (.ptr key t (off+n.toNat) 0) M) else False
   | none,.sl _ es=>AX es n z λ cs=>K (.o7 cs) M
   | _,_=>False
  | _=>False
 | .idx len z agg x i=>match ex tm i,ex tm x with
  | .int _ n,.agg cs=>AM (0<=n/\n<(len:Int)) (match part cs (n.toNat*z) z with
   | some ds=>fL ds λ ds=>nv agg ds λ v=>K v M
   | none=>False)
  | _,_=>False
 | .ld agg n x=>match ex tm x with
  | .ptr key t i j=>match c6 M key with
   | some (s,c)=>match t with
    | 0=>bif QQ s b9 then (match c with
     | .bx cs=>bif Nat.beq i 0 then (match part cs j n with
      | some ds=>fL ds λ ds=>nv agg ds λ v=>K v M
      | none=>False) else False
     | .rw _ es=>A5 es i j n λ ds=>fL ds λ ds=>bif D5 ds then nv agg ds λ v=>K v M else False
     | .bs _ es=>(match es[i]? with
      | some cs=>(match part cs j n with
       | some ds=>fL ds λ ds=>nv agg ds λ v=>K v M
       | none=>False)
      | none=>False)
     | .mx rows=>bif Nat.beq j 0 then bif Nat.beq n 1 then BN rows i λ r=>match r with
      | some (z,es)=>nv agg [.row key (i+1) z 0 es.length] λ v=>K v M
      | none=>nv agg [.nil] λ v=>K v M else False else False
     | .hx _ _ _=>False
     | .vw _ _=>False) else False
    | i'+1=>match c,b9 with
     | .mx rows,[]=>BG rows i' λ_ es=>A5 es i j n λ ds=>fL ds λ ds=>bif D5 ds then nv agg ds λ v=>K v M else False
     | .mx rows,b::r=>bif RU (b::r) then BG rows i' λ_ es=>A5 es i j n λ ds=>fL ds λ ds=>bif D5 ds then nv agg ds λ v=>K v M else False else False
     | _,_=>False
   | none=>False
  | .o7 cs=>match part cs 0 n with
   | some ds=>fL ds λ ds=>bif D5 ds then nv agg ds λ v=>K v M else False
   | none=>False
  | _=>False
 | .sn agg n x=>match ex tm x with
  | .o7 cs=>match part cs 0 n with
   | some ds=>fL ds λ ds=>bif D5 ds then nv agg ds λ v=>K v M else False
   | none=>False
  | _=>False
 | .st n x v=>gZ tm M K n x v
 | .na s n x v=>match ex tm x with
  | .ptr key 0 _ _=>(match c6 M key with
   | some (s',_)=>bif Nat.beq s' s then gZ tm M K n x v else False
   | none=>False)
  | _=>False
 | .l9 f xs=>TG tm xs λ vs=>bif vs.all dq then AB L f (vs.map wc) λ r=>BU r λ r=>K r M else False
 | .mk s z bytes zero l c=>match ex tm l,ex tm c with
  | .int _ a,.int _ b=>bif Nat.beq zero.length z then bif D5 zero then match zero with
   | [.nil]=>bif EN s then CT a b bytes λ rows n=>FG s tm M λ k=>K (.row k 0 z 0 n) ((k,s,.mx rows)::M) else False
   | zero=>bif EN s then (B3 a b bytes zero λ es n=>FG s tm M λ k=>K (.row k 0 z 0 n) ((k,s,.rw z es)::M)) else False else False else False
  | _,_=>False
 | .fg z x lo hi=>Y3 tm lo λ lo=>Y3 tm hi λ hi=>match ex tm x with
  | .sl l es=>B9 z es lo hi λ es=>K (.sl l es) M
  | .row key t z' off len=>bif Nat.beq z' z then BO lo hi len λ a h=>K (.row key t z (off+a) (h-a)) M else False
  | .nil=>(match lo,hi with
   | none,none=>K .nil M
   | some a,none=>AM (a=0) (K .nil M)
   | none,some h=>AM (h=0) (K .nil M)
   | some a,some h=>AM (a=0/\h=0) (K .nil M))
  | _=>False
 | .ext x i=>match ex tm x with
  | .g7 vs=>f2 (xu vs i) λ v=>K v M
  | _=>False
 | .len x=>match ex tm x with
  | .sl _ es=>AQ es λ n=>K (.int .i64 (n:Int)) M
  | .nil=>K (.int .i64 0) M
  | .row _ _ _ _ n=>K (.int .i64 (n:Int)) M
  | _=>False
 | .mm mx xs=>match QD tm xs with
  | .int k a::r=>RT mx k (λ v=>K v M) a r
  | _=>False
 | .app s z bytes x y=>bif Nat.ble 800000 s then aM tm M s z bytes x y K else (
  match RA M (ex tm y) with
  | some (ky,some (k2,z2,n2))=>match ex tm x with
   | .row key 0 z' off len=>bif Nat.beq off 0 then bif Nat.beq z' 1 then bif Nat.beq z 1 then bif Nat.beq key k2 then False else bif Nat.beq key ky then False else bif Nat.beq k2 ky then False else (match c6 M k2 with
    | some (_,.rw z3 es)=>bif Nat.beq z2 z3 then (match c6 M key with
     | some (s',.mx rows)=>fM (n8 key (n8 k2 (n8 ky M))) λ M'=>AM (n2=es.length) (CP rows len (some (z2,es)) bytes λ o4 n=>FG s tm M λ k=>K (.row k 0 z 0 n) ((k,s',.mx o4)::M'))
     | _=>False) else False
    | _=>False) else False else False else False
   | .nil=>bif EN s then bif Nat.beq z 1 then (match c6 M k2 with
    | some (_,.rw z3 es)=>bif Nat.beq z2 z3 then fM (n8 k2 M) λ M'=>AM (n2=es.length/\bytes<=140737488355328) (FG s tm M λ k=>K (.row k 0 z 0 1) ((k,s,.mx [some (z2,es)])::M')) else False
    | _=>False) else False else False
   | _=>False
  | some (ky,none)=>match ex tm x with
   | .row key 0 z' off len=>bif Nat.beq off 0 then bif Nat.beq z' 1 then bif Nat.beq z 1 then bif Nat.beq key ky then False else (match c6 M key with
     | some (s',.mx rows)=>fM (n8 key M) λ M'=>CP rows len none bytes λ o4 n=>FG s tm M λ k=>K (.row k 0 z 0 n) ((k,s',.mx o4)::M')
     | _=>False) else False else False else False
   | .nil=>bif EN s then bif Nat.beq z 1 then AM (bytes<=140737488355328) (FG s tm M λ k=>K (.row k 0 z 0 1) ((k,s,.mx [none])::M)) else False else False
   | _=>False
  | none=>U5 M (ex tm y) λ ys=>match ex tm x with
   | .row key 0 z' off len=>bif Nat.beq off 0 then bif Nat.beq z' z then (match c6 M key with
    | some (s',.rw ax es)=>bif Nat.beq ax z then fM (n8 key M) λ M'=>(BS es len ys z bytes λ es' n=>FG s tm M λ k=>K (.row k 0 z 0 n) ((k,s',.rw z es')::M')) else False
    | _=>False) else False else False
   | .row key (i+1) z' off len=>bif Nat.beq off 0 then bif Nat.beq z' z then (match c6 M key with
    | some (sk,.mx rows)=>fM (n8 key M) λ M'=>BG rows i λ ax es=>bif Nat.beq ax z then (BS es len ys z bytes λ es' n => ∀ s' v,FG s tm M λ k=>K (.row k 0 z 0 n) ((k,s',.rw z es')::(key,sk,.hx i v (rows.set i none))::M')) else False
    | _=>False) else False else False
   | .nil=>bif EN s then B7 ys z bytes λ es n=>FG s tm M λ k=>K (.row k 0 z 0 n) ((k,s,.rw z es)::M) else False
   | _=>False)
 | .dj s z bytes x y=>match ex tm y with
  | .sl _ ys=>match ex tm x with
   | .row key 0 z' off len=>bif Nat.beq off 0 then bif Nat.beq z' z then (match c6 M key with
    | some (s',.rw ax es)=>bif Nat.beq s' s then bif Nat.beq ax z then fM (n8 key M) λ M'=>(BS es len ys z bytes λ es' n=>FG s tm M λ k=>K (.row k 0 z 0 n) ((k,s',.rw z es')::M')) else False else False
    | _=>False) else False else False
   | _=>False
  | _=>False
 | .oa z x y=>U5 M (ex tm y) λ ys=>match ex tm x with
  | .row key 0 z' off len=>bif Nat.beq z' z then (match c6 M key with
   | some (s',.rw ax es)=>bif Nat.beq ax z then C5 es off len ys z λ es' n=>K (.int .i64 (n:Int)) ((key,s',.rw z es')::M) else False
   | _=>False) else False
  | _=>False
 | .call f xs=>WL tm M b9 xs λ vs=>AB L f vs λ r=>K r M
 | .e9 f xs=>TG tm xs λ vs=>A9 L f vs tm M K
 | .o9 s f xs=>bif EN s then gQ tm M b9 xs λ vs=>CK L f vs λ z es n=>FG s tm M λ k=>K (.row k 0 z 0 n) ((k,s,.rw z es)::M) else False
 | .rh ne x=>match ex tm x with
  | .nil=>fB (xor true ne) λ c=>K (.bool c) M
  | .cj (.bool b)=>fB (xor b ne) λ c=>K (.bool c) M
  | .sl _ es=>AM (es≠[]) (fB (xor false ne) λ c=>K (.bool c) M)
  | .row _ _ _ _ n=>AM (0<n) (fB (xor false ne) λ c=>K (.bool c) M)
  | _=>False
 | .bad=>False
 | .su x=>match ex tm x with
  | .ptr key t i j=>K (.ptr key t i j) M
  | _=>False
 | .er x=>match ex tm x with
  | .nil=>K (.int .i64 0) M
  | _=>False
 | .nb s z bytes x y=>match ex tm x,ex tm y with
  | .nil,.int _ n=>bif EN s then AM (0<n/\n*bytes<=DP/\n<=9223372036854775807) (FG s tm M λ k=>K (.row k 0 z 0 n.toNat) ((k,s,.rw z [])::M)) else False
  | _,_=>False
 | .bg s f xs=>TG tm xs λ vs=>match vs with
  | .ptr key 0 0 0::rest=>bif YQ rest then wP L s f key rest M K else False
  | _=>False
 | .nw s z bytes x y=>match ex tm x,ex tm y with
  | .nil,.sl _ ys=>bif EN s then B7 ys z bytes λ es n=>AM (0<n) (FG s tm M λ k=>K (.row k 0 z 0 n) ((k,s,.rw z es)::M)) else False
  | _,_=>False
 | .fy tb x=>match ex tm x with
  | .int _ n=>Q9 tb n λ v=>K (.int .u8 v) M
  | _=>False
 | .pd p f xs=>eH tm xs λ cs=>K (.fn (p&&cs.isEmpty) f (L.num f) cs) M
 | .qg f x=>match ex tm x with
  | .agg (c::cs)=>K (.fn true f (L.num f) (c::cs)) M
  | _=>False
 | .m9 x xs=>match ex tm x with
  | .fn true f g []=>AM (g=L.num f) (WL tm M [] xs λ vs=>AB L f vs λ r=>K r M)
  | .fn true f g (c::cs)=>AM (g=L.num f) (PW true M [] (.agg (c::cs)) λ v=>WL tm M [] xs λ vs=>AB L f (v::vs) λ r=>K r M)
  | .fn false f g cs=>bif V3 cs then AM (g=L.num f) (TG tm xs λ vs=>fL (vs++cs) λ vs=>A9 L f vs tm M K) else False
  | _=>False
def Db (key:Nat):Tm->Tm
 | []=>[]
 | (j,v)::r=>bif P7 key v then (j,.any)::Db key r else (j,v)::Db key r
def xk (v:AV) (tm:Tm) (K:Tm->Prop):Prop:=match v with
 | .row key (_+1) _ _ _=>fT (Db key tm) K
 | _=>K tm
noncomputable def XI (L:Lib) (o:AI) (ih:(Tm->Mem->Prop)->Tm->Mem->Prop) (K:Tm->Mem->Prop) (tm:Tm) (M:Mem):Prop:=match o with
 | ⟨some d,.app s z b x y,none,b9⟩=>XE L tm M b9 (λ v M=>xk (ex tm x) tm λ tm=>ih K ((d,v)::tm) M) (.app s z b x y)
 | ⟨some d,op,none,b9⟩=>XE L tm M b9 (λ v M=>ih K ((d,v)::tm) M) op
 | ⟨none,op,none,b9⟩=>XE L tm M b9 (λ_ M=>ih K tm M) op
 | ⟨dst,op,some (g,w),b9⟩=>match tg tm g with
  | .bool b=>fB (b == w) λ c=>match c,dst with
   | true,some d=>XE L tm M b9 (λ v M=>ih K ((d,v)::tm) M) op
   | true,none=>XE L tm M b9 (λ_ M=>ih K tm M) op
   | false,some d=>ih K ((d,.g7 [])::tm) M
   | false,none=>ih K tm M
  | .g7 []=>match dst with
   | some d=>ih K ((d,.g7 [])::tm) M
   | none=>ih K tm M
  | _=>False
noncomputable def XO (L:Lib) (l:List AI):(Tm->Mem->Prop)->Tm->Mem->Prop :=
 List.rec (motive:=λ_=>(Tm->Mem->Prop)->Tm->Mem->Prop) (λ K tm M=>K tm M) (λ o _ ih K tm M=>XI L o ih K tm M) l
noncomputable def XS (L:Lib) (Q:Tm->Mem->Prop) (ih:List It->Tm->Mem->Prop) (k:List It) (tm:Tm) (M:Mem):Prop:=match k with
 | []=>Q tm M
 | it::k=>match it with
  | .e8 _=>ih k tm M
  | .jx ts ss=>fN (mask 0 ts) λ m=>fT (va m tm) λ tm=>match ss with
   | []=>ih k tm M
   | _::_=>False
  | .lp c=>AA L (.lp c::k) tm M Q
  | .code c=>match c with
   | .skip=>ih k tm M
   | .ops l _=>XO L l (λ tm M=>ih k tm M) tm M
   | .dr c ts ss=>ih (.code c :: .jx ts ss::k) tm M
   | .scope c=>ih (.code c::k) tm M
   | .seq a b=>ih (.code a :: .code b::k) tm M
   | .cond x a b=>match ex tm x with
    | .bool b'=>fB b' λ c=>match c with
     | true=>ih (.code a::k) tm M
     | false=>ih (.code b::k) tm M
    | _=>False
   | .block id c=>ih (.code c :: .e8 id::k) tm M
   | .loop c=>AA L (.lp c::k) tm M Q
   | .exit id=>match DW id k with
    | some k'=>ih k' tm M
    | none=>False
   | .ret=>Q tm M
noncomputable def XK (L:Lib) (Q:Tm->Mem->Prop) (n:Nat):List It->Tm->Mem->Prop :=
 Nat.rec (motive:=λ_=>List It->Tm->Mem->Prop) (λ k tm M=>AA L k tm M Q) (λ_ ih k tm M=>XS L Q ih k tm M) n
def WD (tm:Tm) (M:Mem) (r:IY) (K:AV->Prop):Prop:=match r with
 | .tmp t=>f2 (tg tm t) K
 | .cell t agg n=>match tg tm t with
  | .ptr key 0 i j=>match c6 M key with
   | some (_,.bx cs)=>bif Nat.beq i 0 then (match part cs j n with
    | some ds=>fL ds λ ds=>nv agg ds K
    | none=>False) else False
   | _=>False
  | _=>False
noncomputable def ZE (tm:Tm) (M:Mem) (l:List IY):(List AV->Prop)->Prop :=
 List.rec (motive:=λ_=>(List AV->Prop)->Prop) (λ K=>K []) (λ x _ ih K=>WD tm M x λ v=>ih λ vs=>K (v::vs)) l
noncomputable def gN (q:Bool) (M:Mem) (l:List AV):(List AV->Prop)->Prop :=
 List.rec (motive:=λ_=>(List AV->Prop)->Prop) (λ K=>K []) (λ x _ ih K=>PW q M [] x λ v=>ih λ vs=>K (v::vs)) l
def Ro (vs:List AV) (K:AV->Prop):Prop:=match vs with
 | [v]=>K v
 | vs=>K (.g7 vs)
def AJ (a r:AV):Prop:=a=r/\A4 r
noncomputable def P5 (fn:AFn) (r:AV) (tm:Tm) (M:Mem):Prop:=ZE tm M fn.res λ vs=>gN false M vs λ vs=>Ro vs λ v=>AJ v r
end Go.c5
