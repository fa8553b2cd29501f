/-
  Functions of the program, as the abstract machine reads them (group Net). Written by a program (gen.py) off the model's own reading of the translation; the seat's check ties them to it.
-/
import Derived.Test.YtplhdlbnneoobaaGreatB1
set_option linter.unusedSimpArgs false
set_option linter.unusedVariables false
set_option linter.unnecessarySimpa false
namespace Go.c6.F
open C
namespace NJ
def r0:=[o 1 (.box 1 0),o 2 (.a6 (.c (.bool false)))]
def r1:=[o 10 (.a5 1 0),o 11 (.ld true 4 10),o 12 (.call 2 [11]),o 13 (.un .not 12),m 14 13,g 15 14 false (.a5 1 4),g 16 14 false (.ld true 4 15),
 g 17 14 false (.call 2 [16]),g 18 14 false (.un .not 17),o 19 (.pick 14 (.c (.bool true)) 18)]
def r2:=[o 2 (.a6 (.c (.bool false)))]
def r3:=[o 20 (.a5 1 8),o 21 (.ld false 1 20),o 22 (.bin .lss 21 (k 0)),m 23 22,g 24 23 false (.a5 1 8),g 25 23 false (.ld false 1 24),
 g 26 23 false (.bin .gtr 25 (k 64)),o 27 (.pick 23 (.c (.bool true)) 26),m 28 27,g 29 28 false (.a5 1 9),g 30 28 false (.ld false 1 29),
 g 31 28 false (.len 30),g 32 28 false (.bin .gtr 31 (k 64)),o 33 (.pick 28 (.c (.bool true)) 32),m 34 33,g 35 34 false (.a5 1 10),
 g 36 34 false (.ld false 1 35),g 37 34 false (.len 36),g 38 34 false (.a5 1 8),g 39 34 false (.ld false 1 38),g 40 34 false (.bin .neq 37 39),
 o 41 (.pick 34 (.c (.bool true)) 40)]
def r4:=[o 2 (.a6 (.c (.bool false)))]
def r5:=[o 42 (.a5 1 9),o 43 (.ld false 1 42),o 44 (.len 43),o 45 (.a6 (k 0))]
def r6:=[o 46 (.bin .lss 45 44)]
def r7:=[m 47 45,o 48 (.a8 none 1 43 45),o 49 (.ld true 1 48),o 4 (.alloc 4 [.nil]),m 3 47,n (.st 1 4 49)]
def r8:=[o 50 (.a5 4 0),o 51 (.ld false 1 50),o 52 (.len 51),o 53 (.bin .gtr 52 (k 64))]
def r9:=[o 2 (.a6 (.c (.bool false)))]
def BI:=[o 54 (.a5 4 0),o 55 (.ld false 1 54),o 56 (.len 55),o 57 (.a6 (k 0))]
def BK:=[o 58 (.bin .lss 57 56)]
def o0:=[o 59 (.a8 none 2 55 57),o 60 (.ld true 2 59),o 6 (.alloc 6 [z,z]),n (.st 2 6 60)]
def BX:=[o 61 (.a5 6 0),o 62 (.ld false 1 61),o 63 (.bin .lss 62 (k 0)),m 64 63,g 65 64 false (.a5 6 0),g 66 64 false (.ld false 1 65),
 g 67 64 false (.a5 1 8),g 68 64 false (.ld false 1 67),g 69 64 false (.a6 3),g 70 64 false (.bin .add 68 69),g 71 64 false (.bin .gtr 66 70),
 o 72 (.pick 64 (.c (.bool true)) 71)]
def u7:=[o 2 (.a6 (.c (.bool false)))]
def w3:=[o 73 (.a5 6 1),o 74 (.ld false 1 73),o 75 (.a5 1 4),o 76 (.a5 75 1),o 77 (.ld false 1 76),o 78 (.bin .shl (k 1) 77),o 79 (.bin .neq 74 78),m 80 79,
 g 81 80 true (.a5 1 4),g 82 80 true (.ld true 4 81),g 83 80 true (.a5 6 1),g 84 80 true (.ld false 1 83),g 85 80 true (.call 5 [82,84]),
 g 86 80 true (.un .not 85),o 87 (.pick 80 86 (.c (.bool false)))]
def x5:=[o 2 (.a6 (.c (.bool false)))]
def CX:=[o 88 (.bin .add 57 (k 1)),m 57 88]
def z9:=[o 89 (.bin .add 45 (k 1)),m 45 89]
def ax:=[o 90 (.a5 1 8),o 91 (.ld false 1 90),o 92 (.a5 1 9),o 93 (.ld false 1 92),o 94 (.len 93),o 95 (.bin .add 91 94),m 7 95]
def az:=[o 96 (.a5 1 10),o 97 (.ld false 1 96),o 98 (.len 97),o 99 (.a6 (k 0))]
def dn:=[o 100 (.bin .lss 99 98)]
def ff:=[o 101 (.a8 none 1 97 99),o 102 (.ld false 1 101),m 9 102]
def fw:=[m 103 9,o 104 (.bin .lss 103 (k 0)),m 105 104,g 106 105 false (.a6 9),g 107 105 false (.a6 7),g 108 105 false (.bin .gtr 106 107),
 o 109 (.pick 105 (.c (.bool true)) 108)]
def H1:=[o 2 (.a6 (.c (.bool false)))]
def JU:=[o 110 (.bin .add 99 (k 1)),m 99 110]
def SI:=[o 111 (.a5 1 11),o 112 (.ld false 1 111),o 113 (.bin .geq 112 (k 0)),m 114 113,g 115 114 true (.a5 1 11),g 116 114 true (.ld false 1 115),
 g 117 114 true (.a6 7),g 118 114 true (.bin .leq 116 117),o 119 (.pick 114 118 (.c (.bool false))),m 2 119]
def l2:=(s (p BK) (s (i 58 .skip (x 2)) (s (b 3 (s (d o0 [58,59,60]) (s (s (d BX [61,62,63,64,65,66,67,68,69,70,71]) (i 72 (s (d u7 [1,3,6,43,44,45,55,56,57,72]) .ret) .skip)) (s (e w3 [6,72,73,74,75,76,77,78,79,80,81,82,83,84,85,86]) (i 87 (s (d x5 [1,3,43,44,45,55,56,57,87]) .ret) .skip))))) (d CX [87,88]))))
def l1:=(s (p r6) (s (i 46 .skip (x 0)) (s (b 1 (s (d r7 [46,47,48,49]) (s (s (d r8 [50,51,52]) (i 53 (s (d r9 [1,3,4,43,44,45,53]) .ret) .skip)) (s (d BI [4,53,54]) (b 2 (w l2)))))) (d z9 [3,55,56,57,58,89]))))
def l3:=(s (p dn) (s (i 100 .skip (x 4)) (s (b 5 (s (d ff [100,101,102]) (s (d fw [9,103,104,105,106,107,108]) (i 109 (s (d H1 [1,7,97,98,99,109]) .ret) .skip)))) (d JU [109,110]))))
def c:=(s (d r0 [0,2]) (s (s (d r1 [10,11,12,13,14,15,16,17,18]) (i 19 (s (d r2 [1,19]) .ret) .skip)) (s (s (d r3 [19,20,21,22,23,24,25,26,27,28,29,30,31,32,33,34,35,36,37,38,39,40]) (i 41 (s (d r4 [1,41]) .ret) .skip)) (s (s (d r5 [41,42]) (b 0 (w l1))) (s (d ax [43,44,45,46,90,91,92,93,94,95]) (s (s (d az [96]) (b 4 (w l3))) (s (d SI [1,7,97,98,99,100,111,112,113,114,115,116,117,118,119]) .ret)))))))
end NJ
def NJ:AFn:=⟨1,NJ.c,[.tmp 2],false⟩
namespace NN
def r0:=[o 3 (.box 3 0),o 6 (.a6 (k 0))]
def r1:=[m 11 1,o 12 (.len 11),o 13 (.a5 3 8),o 14 (.ld false 1 13),o 15 (.bin .neq 12 14)]
def r2:=[o 6 (.a6 (k 1))]
def r3:=[m 16 1,o 17 (.len 16),o 18 (.a6 (k 0))]
def r4:=[o 19 (.bin .lss 18 17)]
def r5:=[o 20 (.a8 none 1 16 18),o 21 (.ld false 1 20),m 8 21]
def r6:=[o 22 (.a5 3 0),o 23 (.ld true 4 22),m 24 8,o 25 (.call 5 [23,24]),o 26 (.un .not 25)]
def r7:=[o 6 (.a6 (k 17))]
def r8:=[o 27 (.bin .add 18 (k 1)),m 18 27]
def r9:=[m 28 2,o 29 (.len 28),o 30 (.a6 (k 0))]
def BI:=[o 31 (.bin .lss 30 29)]
def BK:=[o 32 (.a8 none 1 28 30),o 33 (.ld false 1 32),m 10 33]
def o0:=[o 34 (.a5 3 0),o 35 (.ld true 4 34),m 36 10,o 37 (.call 5 [35,36]),o 38 (.un .not 37)]
def BX:=[o 6 (.a6 (k 17))]
def u7:=[o 39 (.bin .add 30 (k 1)),m 30 39]
def w3:=[o 6 (.a6 (k 0))]
def l1:=(s (p r4) (s (i 19 .skip (x 0)) (s (b 1 (s (d r5 [19,20,21]) (s (d r6 [8,22,23,24,25]) (i 26 (s (d r7 [2,3,16,17,18,26]) .ret) .skip)))) (d r8 [26,27]))))
def l2:=(s (p BI) (s (i 31 .skip (x 2)) (s (b 3 (s (d BK [31,32,33]) (s (d o0 [10,34,35,36,37]) (i 38 (s (d BX [3,28,29,30,38]) .ret) .skip)))) (d u7 [38,39]))))
def c:=(s (d r0 [0,6]) (s (s (d r1 [11,12,13,14]) (i 15 (s (d r2 [1,2,3,15]) .ret) .skip)) (s (s (d r3 [1,15]) (b 0 (w l1))) (s (s (d r9 [2,16,17,18,19]) (b 2 (w l2))) (s (d w3 [3,28,29,30,31]) .ret)))))
end NN
def NN:AFn:=⟨3,NN.c,[.tmp 6],false⟩
namespace NL
def r0:=[o 3 (.box 3 0),o 6 (.a6 (.c .nil)),o 7 (.a6 (.c (.bool false)))]
def r1:=[o 16 (.a5 3 8),o 17 (.ld false 1 16),o 18 (.bin .add (k 1) 17),o 19 (.a5 3 9),o 20 (.ld false 1 19),o 21 (.len 20),o 22 (.bin .add 18 21),
 o 23 (.mk 23 1 8 [z] (k 0) 22),m 8 23]
def r2:=[m 24 8,m 25 2,o 26 (.b7 26 1 [25]),o 27 (.app 27 1 8 24 26),m 8 27]
def r3:=[m 28 8,m 29 1,o 30 (.app 30 1 8 28 29),m 8 30]
def r4:=[o 9 (.a6 (.c (.bool false)))]
def r5:=[o 31 (.a5 3 9),o 32 (.ld false 1 31),o 33 (.len 32),o 34 (.a6 (k 0))]
def r6:=[o 35 (.bin .lss 34 33)]
def r7:=[o 36 (.a8 none 1 32 34),o 37 (.ld true 1 36),o 11 (.alloc 11 [.nil]),n (.st 1 11 37)]
def r8:=[o 12 (.a6 (k 0))]
def r9:=[o 38 (.a5 11 0),o 39 (.ld false 1 38),o 40 (.len 39),o 41 (.a6 (k 0))]
def BI:=[o 42 (.bin .lss 41 40)]
def BK:=[o 43 (.a8 none 2 39 41),o 44 (.ld true 2 43),o 14 (.alloc 14 [z,z]),n (.st 2 14 44)]
def o0:=[m 45 12,o 46 (.a5 14 1),o 47 (.ld false 1 46),m 48 8,o 49 (.a5 14 0),o 50 (.ld false 1 49),o 51 (.a8 none 1 48 50),o 52 (.ld false 1 51),
 o 53 (.bin .mul 47 52),o 54 (.bin .add 45 53),m 12 54]
def BX:=[o 55 (.bin .add 41 (k 1)),m 41 55]
def u7:=[m 56 12,o 57 (.a5 3 4),o 58 (.a5 57 1),o 59 (.ld false 1 58),o 60 (.a5 3 0),o 61 (.a5 60 2),o 62 (.ld false 1 61),o 63 (.call 6 [56,59,62]),
 m 15 63]
def w3:=[m 64 9,m 65 64,g 66 65 false (.a5 3 0),g 67 65 false (.ld true 4 66),g 68 65 false (.a6 15),g 69 65 false (.call 5 [67,68]),
 g 70 65 false (.un .not 69),o 71 (.pick 65 (.c (.bool true)) 70),m 9 71]
def x5:=[m 72 8,o 73 (.a5 3 0),o 74 (.ld true 4 73),m 75 15,o 76 (.call 9 [74,75]),o 77 (.b7 77 1 [76]),o 78 (.app 78 1 8 72 77),m 8 78]
def CX:=[o 79 (.bin .add 34 (k 1)),m 34 79]
def z9:=[m 80 8,m 81 9,m 6 80,m 7 81]
def l2:=(s (p BI) (s (i 42 .skip (x 2)) (s (b 3 (s (d BK [42,43,44]) (e o0 [14,45,46,47,48,49,50,51,52,53,54]))) (d BX [55]))))
def l1:=(s (p r6) (s (i 35 .skip (x 0)) (s (b 1 (s (d r7 [35,36,37]) (s (p r8) (s (s (d r9 [11,38]) (b 2 (w l2))) (s (d u7 [12,39,40,41,42,56,57,58,59,60,61,62,63]) (s (d w3 [64,65,66,67,68,69,70,71]) (d x5 [15,72,73,74,75,76,77,78]))))))) (d CX [79]))))
def c:=(s (d r0 [0,6,7]) (s (d r1 [16,17,18,19,20,21,22,23]) (s (d r2 [2,24,25,26,27]) (s (d r3 [1,28,29,30]) (s (p r4) (s (s (d r5 [31]) (b 0 (w l1))) (s (d z9 [3,8,9,32,33,34,35,80,81]) .ret)))))))
end NL
def NL:AFn:=⟨3,NL.c,[.tmp 6,.tmp 7],false⟩
namespace NK
def r0:=[o 3 (.box 3 0),o 6 (.a6 (.c .nil)),o 7 (.a6 (.c (.bool false))),o 8 (.a6 (k 0))]
def r1:=[o 12 (.ld true 12 3),o 13 (.call 21 [12]),o 14 (.un .not 13)]
def r2:=[o 6 (.a6 (.c .nil)),o 7 (.a6 (.c (.bool false))),o 8 (.a6 (k 2))]
def r3:=[o 15 (.ld true 12 3),m 16 1,m 17 2,o 18 (.b7 18 1 [17]),o 19 (.call 22 [15,16,18]),m 9 19]
def r4:=[m 20 9,o 21 (.bin .neq 20 (k 0))]
def r5:=[m 22 9,o 6 (.a6 (.c .nil)),o 7 (.a6 (.c (.bool false))),m 8 22]
def r6:=[o 24 (.ld true 12 3),m 25 1,m 26 2,o 27 (.call 23 [24,25,26]),m 23 27,o 28 (.ext 23 0),o 29 (.ext 23 1),m 10 28,m 11 29]
def r7:=[m 30 10,m 31 11,m 6 30,m 7 31,o 8 (.a6 (k 0))]
def c:=(s (d r0 [0,6,7,8]) (s (s (d r1 [12,13]) (i 14 (s (d r2 [1,2,3,14]) .ret) .skip)) (s (s (d r3 [14,15,16,17,18,19]) (s (d r4 [20]) (i 21 (s (d r5 [1,2,3,9,21,22]) .ret) .skip))) (s (d r6 [1,2,3,9,21,23,24,25,26,27,28,29]) (s (d r7 [10,11,30,31]) .ret)))))
end NK
def NK:AFn:=⟨3,NK.c,[.tmp 6,.tmp 7,.tmp 8],false⟩
namespace NM
def r0:=[o 2 (.box 2 0),o 4 (.a6 (.c .nil))]
def r1:=[o 8 (.a5 2 8),o 9 (.ld false 1 8),o 10 (.mk 10 1 8 [z] 9 9),m 5 10]
def r2:=[o 11 (.a5 2 10),o 12 (.ld false 1 11),o 13 (.len 12),o 14 (.a6 (k 0))]
def r3:=[o 15 (.bin .lss 14 13)]
def r4:=[m 16 14,o 17 (.a8 none 1 12 14),o 18 (.ld false 1 17),m 6 16,m 7 18]
def r5:=[m 19 5,m 20 6,m 21 1,m 22 7,o 23 (.a8 none 1 21 22),o 24 (.ld false 1 23),o 25 (.a8 none 1 19 20),n (.st 1 25 24)]
def r6:=[o 26 (.bin .add 14 (k 1)),m 14 26]
def r7:=[m 27 5,m 4 27]
def l1:=(s (p r3) (s (i 15 .skip (x 0)) (s (b 1 (s (d r4 [15,16,17,18]) (d r5 [6,7,19,20,21,22,23,24,25]))) (d r6 [26]))))
def c:=(s (d r0 [0,4]) (s (d r1 [8,9,10]) (s (s (d r2 [2,11]) (b 0 (w l1))) (s (d r7 [1,5,12,13,14,15,27]) .ret))))
end NM
def NM:AFn:=⟨2,NM.c,[.tmp 4],false⟩
namespace NI
def r0:=[o 3 (.box 3 0),o 6 (.a6 (.c .nil)),o 7 (.a6 (k 0)),o 8 (.a6 (.c (.bool false))),o 9 (.a6 (k 0))]
def r1:=[o 14 (.ld true 12 3),m 15 1,m 16 2,o 17 (.call 24 [14,15,16]),m 13 17,o 18 (.ext 13 0),o 19 (.ext 13 1),o 20 (.ext 13 2),m 10 18,m 11 19,m 12 20]
def r2:=[m 21 12,o 22 (.bin .neq 21 (k 0))]
def r3:=[m 23 12,o 6 (.a6 (.c .nil)),o 7 (.a6 (k 0)),o 8 (.a6 (.c (.bool false))),m 9 23]
def r4:=[o 24 (.ld true 12 3),m 25 10,o 26 (.call 25 [24,25]),m 27 10,o 28 (.a5 3 11),o 29 (.ld false 1 28),o 30 (.a8 none 1 27 29),o 31 (.ld false 1 30),
 m 32 11,m 6 26,m 7 31,m 8 32,o 9 (.a6 (k 0))]
def c:=(s (d r0 [0,6,7,8,9]) (s (d r1 [1,2,13,14,15,16,17,18,19,20]) (s (s (d r2 [21]) (i 22 (s (d r3 [3,10,11,12,22,23]) .ret) .skip)) (s (e r4 [3,10,11,12,22,24,25,26,27,28,29,30,31,32]) .ret))))
end NI
def NI:AFn:=⟨3,NI.c,[.tmp 6,.tmp 7,.tmp 8,.tmp 9],false⟩
namespace PR
def r0:=[o 1 (.box 1 0),o 2 (.a6 (.c (.bool false)))]
def r1:=[o 8 (.a5 1 0),o 9 (.ld true 4 8),o 10 (.call 11 [9]),o 11 (.un .not 10),m 12 11,g 13 12 false (.a5 1 4),g 14 12 false (.ld true 4 13),
 g 15 12 false (.call 11 [14]),g 16 12 false (.un .not 15),o 17 (.pick 12 (.c (.bool true)) 16),m 18 17,g 19 18 false (.a5 1 8),
 g 20 18 false (.ld false 1 19),g 21 18 false (.call 10 [20,(k 0),(k 64)]),g 22 18 false (.un .not 21),o 23 (.pick 18 (.c (.bool true)) 22),m 24 23,
 g 25 24 false (.a5 1 9),g 26 24 false (.ld false 1 25),g 27 24 false (.len 26),g 28 24 false (.bin .gtr 27 (k 64)),o 29 (.pick 24 (.c (.bool true)) 28),
 m 30 29,g 31 30 false (.a5 1 10),g 32 30 false (.ld false 1 31),g 33 30 false (.len 32),g 34 30 false (.a5 1 8),g 35 30 false (.ld false 1 34),
 g 36 30 false (.bin .neq 33 35),o 37 (.pick 30 (.c (.bool true)) 36)]
def r2:=[o 2 (.a6 (.c (.bool false)))]
def r3:=[o 3 (.a6 (k 0))]
def r4:=[m 38 3,o 39 (.a5 1 9),o 40 (.ld false 1 39),o 41 (.len 40),o 42 (.bin .lss 38 41)]
def r6:=[o 45 (.a5 1 9),o 46 (.ld false 1 45),m 47 3,o 48 (.a8 none 1 46 47),o 49 (.a5 48 0),o 50 (.ld false 1 49),o 51 (.len 50),
 o 52 (.bin .gtr 51 (k 64))]
def r7:=[o 2 (.a6 (.c (.bool false)))]
def r8:=[o 4 (.a6 (k 0))]
def r9:=[m 53 4,o 54 (.a5 1 9),o 55 (.ld false 1 54),m 56 3,o 57 (.a8 none 1 55 56),o 58 (.a5 57 0),o 59 (.ld false 1 58),o 60 (.len 59),
 o 61 (.bin .lss 53 60)]
def BK:=[o 64 (.a5 1 9),o 65 (.ld false 1 64),m 66 3,o 67 (.a8 none 1 65 66),o 68 (.a5 67 0),o 69 (.ld false 1 68),m 70 4,o 71 (.a8 none 2 69 70),
 o 72 (.ld true 2 71),o 5 (.alloc 5 [z,z]),n (.st 2 5 72)]
def o0:=[o 73 (.a5 5 0),o 74 (.ld false 1 73),o 75 (.a5 1 8),o 76 (.ld false 1 75),m 77 3,o 78 (.bin .add 76 77),o 79 (.call 10 [74,(k 0),78]),
 o 80 (.un .not 79),m 81 80,g 82 81 false (.a5 1 4),g 83 81 false (.ld true 4 82),g 84 81 false (.a5 5 1),g 85 81 false (.ld false 1 84),
 g 86 81 false (.call 14 [83,85]),g 87 81 false (.un .not 86),g 88 81 false (.a6 87),g 89 88 true (.a5 5 1),g 90 88 true (.ld false 1 89),
 g 91 88 true (.a5 1 4),g 92 88 true (.a5 91 1),g 93 88 true (.ld false 1 92),g 94 88 true (.conv .u64 93),g 95 88 true (.bin .shl (k 1) 94),
 g 96 88 true (.bin .neq 90 95),g 97 81 false (.pick 88 96 (.c (.bool false))),o 98 (.pick 81 (.c (.bool true)) 97)]
def BX:=[o 2 (.a6 (.c (.bool false)))]
def BI:=[m 62 4,o 63 (.bin .add 62 (k 1)),m 4 63]
def r5:=[m 43 3,o 44 (.bin .add 43 (k 1)),m 3 44]
def u7:=[o 99 (.a5 1 8),o 100 (.ld false 1 99),o 101 (.a5 1 9),o 102 (.ld false 1 101),o 103 (.len 102),o 104 (.bin .add 100 103),m 6 104]
def w3:=[o 7 (.a6 (k 0))]
def x5:=[m 105 7,o 106 (.a5 1 8),o 107 (.ld false 1 106),o 108 (.bin .lss 105 107)]
def z9:=[o 111 (.a5 1 10),o 112 (.ld false 1 111),m 113 7,o 114 (.a8 none 1 112 113),o 115 (.ld false 1 114),m 116 6,o 117 (.call 10 [115,(k 0),116]),
 o 118 (.un .not 117)]
def ax:=[o 2 (.a6 (.c (.bool false)))]
def CX:=[m 109 7,o 110 (.bin .add 109 (k 1)),m 7 110]
def az:=[o 119 (.a5 1 11),o 120 (.ld false 1 119),m 121 6,o 122 (.call 10 [120,(k 0),121]),m 2 122]
def l2:=(s (s (d r9 [53,54,55,56,57,58,59,60]) (i 61 .skip (x 2))) (s (b 3 (s (d BK [61,64,65,66,67,68,69,70,71,72]) (s (d o0 [5,73,74,75,76,77,78,79,80,81,82,83,84,85,86,87,88,89,90,91,92,93,94,95,96,97]) (i 98 (s (d BX [1,3,4,98]) .ret) .skip)))) (d BI [62,63,98])))
def l1:=(s (s (d r4 [38,39,40,41]) (i 42 .skip (x 0))) (s (b 1 (s (s (d r6 [42,45,46,47,48,49,50,51]) (i 52 (s (d r7 [1,3,52]) .ret) .skip)) (s (d r8 [52]) (b 2 (w l2))))) (d r5 [4,43,44,61])))
def l3:=(s (s (d x5 [105,106,107]) (i 108 .skip (x 4))) (s (b 5 (s (d z9 [108,111,112,113,114,115,116,117]) (i 118 (s (d ax [1,6,7,118]) .ret) .skip))) (d CX [109,110,118])))
def c:=(s (d r0 [0,2]) (s (s (d r1 [8,9,10,11,12,13,14,15,16,17,18,19,20,21,22,23,24,25,26,27,28,29,30,31,32,33,34,35,36]) (i 37 (s (d r2 [1,37]) .ret) .skip)) (s (s (d r3 [37]) (b 0 (w l1))) (s (d u7 [3,42,99,100,101,102,103,104]) (s (s (p w3) (b 4 (w l3))) (s (d az [1,6,7,108,119,120,121,122]) .ret))))))
end PR
def PR:AFn:=⟨1,PR.c,[.tmp 2],false⟩
structure u4 (L:Lib):Prop extends c7 L where
 NJ:L 21=some F.NJ
 NN:L 22=some F.NN
 NL:L 23=some F.NL
 NK:L 24=some F.NK
 NM:L 25=some F.NM
 NI:L 26=some F.NI
 PR:L 27=some F.PR
end Go.c6.F
namespace Go.c6.F
open C
structure iz (L:Lib):Prop extends v8 L,u4 L where
end Go.c6.F

namespace Go.c6.F
open C
namespace OO
def r0:=[o 1 (.box 1 0),o 2 (.alloc 2 [(.bool false),.nil,.nil])]
def r1:=[o 3 (.a5 1 0),o 4 (.a5 3 0),o 5 (.ld false 1 4),o 6 (.un .not 5),o 7 (.a5 1 0),o 8 (.a5 7 1),o 9 (.ld false 1 8),
 o 10 (.build [(.bool false),.nil] [(0,1,6),(1,1,9)]),o 11 (.a5 1 2),o 12 (.ld false 1 11),
 o 13 (.build [(.bool false),.nil,.nil] [(0,2,10),(2,1,12)]),n (.st 3 2 13)]
def c:=(s (d r0 [0]) (s (d r1 [1,3,4,5,6,7,8,9,10,11,12,13]) .ret))
end OO
def OO:AFn:=⟨1,OO.c,[.cell 2 true 3],false⟩
namespace OM
def r0:=[o 2 (.box 2 0),o 3 (.box 3 1),o 4 (.alloc 4 [(.bool false),.nil,.nil])]
def r1:=[o 5 (.ld true 3 2),o 6 (.ld true 3 3),o 7 (.m5 149 [6]),o 8 (.call 98 [5,7]),n (.st 3 4 8)]
def c:=(s (d r0 [0,1]) (s (e r1 [2,3,5,6,7,8]) .ret))
end OM
def OM:AFn:=⟨2,OM.c,[.cell 4 true 3],false⟩
namespace OI
def r0:=[o 4 (.alloc 4 [(.bool false),.nil,.nil])]
def r1:=[m 5 1,o 6 (.bin .eql 5 (k 0))]
def r2:=[o 7 (.call 96 [(k 0)]),n (.st 3 4 7)]
def r3:=[m 8 0,o 9 (.call 85 [8]),m 10 1,o 11 (.call 85 [10]),o 12 (.g6 93 [9,11]),o 13 (.call 94 [12]),n (.st 3 4 13)]
def c:=(s (p r0) (s (s (d r1 [5]) (i 6 (s (d r2 [0,1,6,7]) .ret) .skip)) (s (d r3 [0,1,6,8,9,10,11,12,13]) .ret)))
end OI
def OI:AFn:=⟨2,OI.c,[.cell 4 true 3],false⟩
structure w9 (L:Lib):Prop extends a7 L where
 OO:L 149=some F.OO
 OM:L 150=some F.OM
 OI:L 151=some F.OI
end Go.c6.F

namespace Go.c6.F
open C
namespace OE
def r0:=[o 2 (.a6 (.c .nil))]
def r1:=[m 4 0,o 5 (.len 4),m 3 5]
def r2:=[m 6 3,o 7 (.bin .gtr 6 (k 0)),m 8 7,g 9 8 true (.a6 0),g 10 8 true (.a6 3),g 11 8 true (.bin .sub 10 (k 1)),g 12 8 true (.a8 none 3 9 11),
 g 13 8 true (.ld true 3 12),g 14 8 true (.call 97 [13]),g 15 8 true (.bin .eql 14 (k 0)),o 16 (.pick 8 15 (.c (.bool false)))]
def r3:=[m 17 3,o 18 (.bin .sub 17 (k 1)),m 3 18]
def r4:=[m 19 0,m 20 3,o 21 (.cj 3 19 none (some 20)),m 2 21]
def l1:=(s (s (d r2 [6,7,8,9,10,11,12,13,14,15]) (i 16 .skip (x 0))) (b 1 (d r3 [16,17,18])))
def c:=(s (d r0 [2]) (s (d r1 [4,5]) (s (b 0 (w l1)) (s (d r4 [0,3,16,19,20,21]) .ret))))
end OE
def OE:AFn:=⟨1,OE.c,[.tmp 2],false⟩
structure jx (L:Lib):Prop extends a7 L where
 OE:L 169=some F.OE
end Go.c6.F

namespace Go.c6.F
open C
namespace PE
def r0:=[o 1 (.box 1 0),o 2 (.alloc 2 [(.bool false),.nil,.nil])]
def r1:=[o 3 (.ld true 3 1),o 4 (.call 123 [3]),n (.st 3 1 4)]
def r2:=[o 5 (.a5 1 0),o 6 (.ld true 2 5),o 7 (.call 114 [6]),o 8 (.a5 1 0),n (.st 2 8 7)]
def r3:=[o 9 (.ld true 3 1),n (.st 3 2 9)]
def c:=(s (d r0 [0]) (s (d r1 [3,4]) (s (d r2 [5,6,7,8]) (s (d r3 [1,9]) .ret))))
end PE
def PE:AFn:=⟨1,PE.c,[.cell 2 true 3],false⟩
namespace SL
def r0:=[o 2 (.box 2 0),o 3 (.box 3 1),o 4 (.alloc 4 [(.bool false),.nil,.nil])]
def r1:=[o 5 (.ld true 3 2),o 6 (.ld true 3 3),o 7 (.call 152 [6]),o 8 (.call 126 [5,7]),n (.st 3 4 8)]
def c:=(s (d r0 [0,1]) (s (e r1 [2,3,5,6,7,8]) .ret))
end SL
def SL:AFn:=⟨2,SL.c,[.cell 4 true 3],false⟩
namespace SJ
def r0:=[o 2 (.box 2 0),o 3 (.box 3 1),o 4 (.alloc 4 [(.bool false),.nil,.nil]),o 5 (.a6 (k 0))]
def r1:=[o 11 (.ld true 3 2),o 12 (.call 122 [11]),m 10 12,o 13 (.ext 10 0),o 14 (.ext 10 1),o 6 (.alloc 6 [(.bool false),.nil]),
 o 7 (.alloc 7 [(.bool false),.nil]),n (.st 2 6 13),n (.st 2 7 14)]
def r2:=[o 16 (.ld true 3 3),o 17 (.call 122 [16]),m 15 17,o 18 (.ext 15 0),o 19 (.ext 15 1),o 8 (.alloc 8 [(.bool false),.nil]),
 o 9 (.alloc 9 [(.bool false),.nil]),n (.st 2 8 18),n (.st 2 9 19)]
def r3:=[o 20 (.ld true 2 8),o 21 (.call 113 [20]),o 22 (.bin .eql 21 (k 0))]
def r4:=[o 23 (.build [(.bool false),.nil,.nil] []),n (.st 3 4 23),o 5 (.a6 (k 3))]
def r5:=[o 24 (.ld true 2 6),o 25 (.ld true 2 9),o 26 (.call 118 [24,25]),o 27 (.ld true 2 7),o 28 (.ld true 2 8),o 29 (.call 118 [27,28]),
 o 30 (.call 121 [26,29]),n (.st 3 4 30),o 5 (.a6 (k 0))]
def c:=(s (d r0 [0,1,5]) (s (d r1 [2,10,11,12,13,14]) (s (d r2 [3,15,16,17,18,19]) (s (s (d r3 [20,21]) (i 22 (s (d r4 [6,7,8,9,22,23]) .ret) .skip)) (s (e r5 [6,7,8,9,22,24,25,26,27,28,29,30]) .ret)))))
end SJ
def SJ:AFn:=⟨2,SJ.c,[.cell 4 true 3,.tmp 5],false⟩
namespace SK
def r0:=[o 1 (.box 1 0),o 2 (.a6 (k 0))]
def r1:=[o 6 (.ld true 3 1),o 7 (.call 122 [6]),m 5 7,o 8 (.ext 5 0),o 9 (.ext 5 1),o 3 (.alloc 3 [(.bool false),.nil]),o 4 (.alloc 4 [(.bool false),.nil]),
 n (.st 2 3 8),n (.st 2 4 9)]
def r2:=[o 10 (.ld true 2 3),o 11 (.call 113 [10]),m 2 11]
def c:=(s (d r0 [0,2]) (s (d r1 [1,4,5,6,7,8,9]) (s (d r2 [3,10,11]) .ret)))
end SK
def SK:AFn:=⟨1,SK.c,[.tmp 2],false⟩
structure cu (L:Lib):Prop extends a9 L where
 PE:L 152=some F.PE
 SL:L 153=some F.SL
 SJ:L 154=some F.SJ
 SK:L 155=some F.SK
end Go.c6.F

namespace Go.c6.F
open C
structure nh (L:Lib):Prop extends cu L where
structure qa (L:Lib):Prop extends iz L,w9 L,jx L,nh L where
end Go.c6.F

namespace Go.c6.F
open C
namespace MM
def r0:=[o 2 (.box 2 0),o 3 (.box 3 1),o 4 (.a6 (k 0))]
def r1:=[o 7 (.ld true 2 2),o 8 (.call 86 [7]),o 9 (.ld true 2 3),o 10 (.call 86 [9]),m 5 8,m 6 10]
def r2:=[m 12 5,m 13 6,o 14 (.bin .lss 12 13),m 11 14]
def r3:=[o 4 (.a6 (k (-1)))]
def r4:=[m 16 5,m 17 6,o 18 (.bin .gtr 16 17),m 15 18]
def r5:=[o 4 (.a6 (k 1))]
def r6:=[m 20 5,o 21 (.bin .eql 20 (k (-1))),m 19 21]
def r7:=[o 22 (.a5 3 1),o 23 (.ld false 1 22),o 24 (.a5 2 1),o 25 (.ld false 1 24),o 26 (.call 67 [23,25]),m 4 26]
def r8:=[o 27 (.a5 2 1),o 28 (.ld false 1 27),o 29 (.a5 3 1),o 30 (.ld false 1 29),o 31 (.call 67 [28,30]),m 4 31]
def c:=(s (d r0 [0,1,4]) (s (e r1 [7,8,9,10]) (s (b 0 (s (d r2 [12,13,14]) (i 11 (s (d r3 [2,3,5,6,11]) .ret) (s (d r4 [6,11,16,17,18]) (i 15 (s (d r5 [2,3,5,15]) .ret) (s (d r6 [5,15,20,21]) (i 19 (s (d r7 [2,3,19,22,23,24,25,26]) .ret) .skip))))))) (s (d r8 [2,3,19,27,28,29,30,31]) .ret))))
end MM
def MM:AFn:=⟨2,MM.c,[.tmp 4],false⟩
namespace K2
def r0:=[o 2 (.box 2 0),o 3 (.box 3 1),o 4 (.a6 (k 0))]
def r1:=[q 7 [5,6] (.ld true 3 2),q 8 [5,6] (.m5 89 [7]),q 9 [5,6] (.ld true 3 3),q 10 [5,6] (.m5 89 [9]),
 o 5 (.alloc 5 [(.bool false),.nil,.nil,(.bool false)]),o 6 (.alloc 6 [(.bool false),.nil,.nil,(.bool false)]),n (.st 4 5 8),n (.st 4 6 10)]
def r2:=[o 11 (.a5 5 3),o 12 (.ld false 1 11),m 13 12,g 14 13 true (.a5 6 3),g 15 13 true (.ld false 1 14),o 16 (.pick 13 15 (.c (.bool false)))]
def r3:=[o 17 (.a5 5 0),o 18 (.a5 17 0),o 19 (.ld true 2 18),o 20 (.a5 6 0),o 21 (.a5 20 0),o 22 (.ld true 2 21),o 23 (.call 197 [19,22]),m 4 23]
def r4:=[o 24 (.a5 5 0),o 25 (.a5 24 0),o 26 (.ld true 2 25),o 27 (.a5 6 0),o 28 (.a5 27 2),o 29 (.ld false 1 28),o 30 (.m5 91 [29]),
 o 31 (.call 88 [26,30]),o 32 (.a5 6 0),o 33 (.a5 32 0),o 34 (.ld true 2 33),o 35 (.a5 5 0),o 36 (.a5 35 2),o 37 (.ld false 1 36),
 o 38 (.m5 91 [37]),o 39 (.call 88 [34,38]),o 40 (.call 197 [31,39]),m 4 40]
def c:=(s (d r0 [0,1,4]) (s (e r1 [2,3,7,8,9,10]) (s (s (d r2 [11,12,13,14,15]) (i 16 (s (d r3 [5,6,16,17,18,19,20,21,22,23]) .ret) .skip)) (s (e r4 [5,6,16,24,25,26,27,28,29,30,31,32,33,34,35,36,37,38,39,40]) .ret))))
end K2
def K2:AFn:=⟨2,K2.c,[.tmp 4],false⟩
namespace OJ
def r0:=[o 1 (.box 1 0),o 2 (.alloc 2 [(.bool false),.nil,.nil])]
def r1:=[o 3 (.ld true 3 1),o 4 (.m5 149 [3]),o 5 (.call 95 [4]),n (.st 3 2 5)]
def c:=(s (d r0 [0]) (s (d r1 [1,3,4,5]) .ret))
end OJ
def OJ:AFn:=⟨1,OJ.c,[.cell 2 true 3],false⟩
namespace OD
def r0:=[o 2 (.a6 (k 0))]
def r1:=[m 3 0,o 4 (.g6 169 [3]),o 5 (.len 4),o 6 (.bin .sub 5 (k 1)),m 2 6]
def c:=(s (d r0 [2]) (s (d r1 [0,3,4,5,6]) .ret))
end OD
def OD:AFn:=⟨1,OD.c,[.tmp 2],false⟩
namespace P4
def r0:=[o 1 (.box 1 0),o 2 (.a6 (.c (.bool false)))]
def r1:=[o 3 (.a5 1 0),o 4 (.ld false 1 3),o 5 (.call 200 [4]),o 6 (.bin .gtr 5 (k 48)),m 7 6,g 8 7 false (.a5 1 1),g 9 7 false (.ld false 1 8),
 g 10 7 false (.call 200 [9]),g 11 7 false (.bin .gtr 10 (k 48)),o 12 (.pick 7 (.c (.bool true)) 11)]
def r2:=[o 2 (.a6 (.c (.bool false)))]
def r3:=[o 13 (.a5 1 1),o 14 (.ld false 1 13),o 15 (.len 14),o 16 (.bin .gtr 15 (k 0)),m 17 16,g 18 17 true (.a5 1 1),g 19 17 true (.ld false 1 18),
 g 20 17 true (.a8 none 3 19 (k 0)),g 21 17 true (.ld true 3 20),g 22 17 true (.call 96 [(k 1)]),g 23 17 true (.call 198 [21,22]),
 g 24 17 true (.bin .eql 23 (k 0)),o 25 (.pick 17 24 (.c (.bool false))),m 2 25]
def c:=(s (d r0 [0,2]) (s (s (d r1 [3,4,5,6,7,8,9,10,11]) (i 12 (s (d r2 [1,12]) .ret) .skip)) (s (e r3 [1,12,13,14,15,16,17,18,19,20,21,22,23,24,25]) .ret)))
end P4
def P4:AFn:=⟨1,P4.c,[.tmp 2],false⟩
namespace QB
def r0:=[o 2 (.a6 (k 0))]
def r1:=[m 4 0,o 5 (.len 4),o 6 (.bin .sub 5 (k 1)),m 3 6]
def r2:=[m 7 3,o 8 (.bin .gtr 7 (k 0))]
def r4:=[m 11 0,m 12 3,o 13 (.a8 none 3 11 12),o 14 (.ld true 3 13),o 15 (.call 97 [14]),o 16 (.bin .neq 15 (k 0))]
def r5:=[m 17 3,m 2 17]
def r3:=[m 9 3,o 10 (.bin .sub 9 (k 1)),m 3 10]
def r6:=[o 2 (.a6 (k 0))]
def l1:=(s (s (d r2 [7]) (i 8 .skip (x 0))) (s (b 1 (s (d r4 [8,11,12,13,14,15]) (i 16 (s (d r5 [0,3,16,17]) .ret) .skip))) (d r3 [9,10,16])))
def c:=(s (d r0 [2]) (s (s (d r1 [4,5,6]) (b 0 (w l1))) (s (d r6 [0,3,8]) .ret)))
end QB
def QB:AFn:=⟨1,QB.c,[.tmp 2],false⟩
namespace QA
def r0:=[o 4 (.alloc 4 [(.bool false),.nil,.nil])]
def r1:=[m 5 1,m 6 0,o 7 (.len 6),o 8 (.bin .lss 5 7)]
def r2:=[m 9 0,m 10 1,o 11 (.a8 none 3 9 10),o 12 (.ld true 3 11),o 13 (.call 95 [12]),n (.st 3 4 13)]
def r3:=[o 14 (.call 96 [(k 0)]),n (.st 3 4 14)]
def c:=(s (p r0) (s (s (d r1 [5,6,7]) (i 8 (s (d r2 [0,1,8,9,10,11,12,13]) .ret) .skip)) (s (d r3 [0,1,8,14]) .ret)))
end QA
def QA:AFn:=⟨2,QA.c,[.cell 4 true 3],false⟩
namespace QC
def r0:=[o 2 (.a6 (.c .nil))]
def r1:=[m 5 0,o 6 (.mk 6 3 56 [(.bool false),.nil,.nil] 5 5),m 3 6]
def r2:=[m 7 0,o 8 (.a6 (k 0))]
def r3:=[o 9 (.bin .lss 8 7)]
def r4:=[m 10 8,m 4 10]
def r5:=[m 11 3,m 12 4,o 13 (.call 96 [(k 0)]),o 14 (.a8 none 3 11 12),n (.st 3 14 13)]
def r6:=[o 15 (.bin .add 8 (k 1)),m 8 15]
def r7:=[m 16 3,m 2 16]
def l1:=(s (p r3) (s (i 9 .skip (x 0)) (s (b 1 (s (d r4 [9,10]) (d r5 [4,11,12,13,14]))) (d r6 [15]))))
def c:=(s (d r0 [2]) (s (d r1 [5,6]) (s (s (d r2 [0]) (b 0 (w l1))) (s (d r7 [3,7,8,9,16]) .ret))))
end QC
def QC:AFn:=⟨1,QC.c,[.tmp 2],false⟩
namespace LB
def r0:=[o 1 (.box 1 0),o 2 (.alloc 2 [.nil,.nil,.nil,(.bool false),.nil,.nil]),o 3 (.a6 (k 0))]
def r1:=[o 10 (.ld true 2 1),o 11 (.call 201 [10]),o 12 (.un .not 11)]
def r2:=[o 13 (.build [.nil,.nil,.nil,(.bool false),.nil,.nil] []),n (.st 6 2 13),o 3 (.a6 (k 2))]
def r3:=[o 14 (.a5 1 0),o 15 (.ld false 1 14),o 16 (.call 204 [15]),o 17 (.a5 1 1),o 18 (.ld false 1 17),o 19 (.call 204 [18]),o 20 (.mm true [16,19]),
 m 4 20]
def r4:=[m 21 4,o 22 (.bin .gtr 21 (k 16))]
def r5:=[o 23 (.build [.nil,.nil,.nil,(.bool false),.nil,.nil] []),n (.st 6 2 23),o 3 (.a6 (k 12))]
def r6:=[o 24 (.a5 1 0),o 25 (.ld false 1 24),o 26 (.call 205 [25,(k 0)]),m 27 4,o 28 (.o5 28 206 [27]),
 o 29 (.build [.nil,.nil,.nil,(.bool false),.nil,.nil] [(3,3,26),(1,1,28)]),o 5 (.alloc 5 [.nil,.nil,.nil,(.bool false),.nil,.nil]),
 n (.st 6 5 29)]
def r7:=[m 30 4,o 31 (.bin .gtr 30 (k 0))]
def r8:=[o 32 (.a5 5 1),o 33 (.ld false 1 32),o 34 (.call 96 [(k 1)]),o 35 (.a8 none 3 33 (k 0)),n (.st 3 35 34)]
def r9:=[m 36 4,o 37 (.a6 (k 0))]
def BI:=[o 38 (.bin .lss 37 36)]
def BK:=[m 39 37,m 6 39]
def o0:=[m 40 4,o 41 (.o5 41 206 [40]),m 7 41]
def BX:=[m 42 6,o 43 (.bin .gtr 42 (k 0))]
def u7:=[m 44 7,m 45 6,o 46 (.bin .sub 45 (k 1)),o 47 (.call 96 [(k 1)]),o 48 (.a8 none 3 44 46),n (.st 3 48 47)]
def w3:=[m 49 4,o 50 (.a6 (k 0))]
def x5:=[o 51 (.bin .lss 50 49)]
def CX:=[m 52 50,m 8 52]
def z9:=[m 53 7,m 54 8,o 55 (.a5 1 1),o 56 (.ld false 1 55),m 57 8,o 58 (.bin .add 57 (k 1)),o 59 (.call 205 [56,58]),o 60 (.call 199 [59]),
 o 61 (.a8 none 3 53 54),n (.st 3 61 60)]
def ax:=[o 62 (.bin .add 50 (k 1)),m 50 62]
def az:=[o 63 (.a5 5 0),o 64 (.ld false 1 63),m 65 7,o 66 (.b7 66 1 [65]),o 67 (.app 67 1 24 64 66),o 68 (.a5 5 0),n (.st 1 68 67)]
def dn:=[o 69 (.a5 1 0),q 70 [9] (.ld false 1 69),q 71 [9] (.call 205 [70,(k 0)]),o 72 (.a5 1 1),q 73 [9] (.ld false 1 72),
 m 74 6,o 75 (.bin .add 74 (k 1)),q 76 [9] (.call 205 [73,75]),q 77 [9] (.call 99 [71,76]),
 o 9 (.alloc 9 [(.bool false),.nil,.nil]),n (.st 3 9 77)]
def ff:=[o 78 (.a5 5 2),q 79 [87] (.ld false 1 78),o 80 (.a5 1 0),o 81 (.ld false 1 80),m 82 6,o 83 (.bin .add 82 (k 1)),o 84 (.call 205 [81,83]),
 o 85 (.ld true 3 9),o 86 (.call 150 [84,85]),o 87 (.b7 87 3 [86]),o 88 (.app 88 3 56 79 87),o 89 (.a5 5 2),n (.st 1 89 88)]
def fw:=[o 90 (.bin .add 37 (k 1)),m 37 90]
def H1:=[o 91 (.ld true 6 5),n (.st 6 2 91),o 3 (.a6 (k 0))]
def l2:=(s (p x5) (s (i 51 .skip (x 2)) (s (b 3 (s (d CX [51,52]) (d z9 [8,53,54,55,56,57,58,59,60,61]))) (d ax [62]))))
def l1:=(s (p BI) (s (i 38 .skip (x 0)) (s (b 1 (s (d BK [38,39]) (s (d o0 [40,41]) (s (s (d BX [42]) (i 43 (d u7 [43,44,45,46,47,48]) (s (d w3 [43]) (b 2 (w l2))))) (s (d az [7,49,50,51,63,64,65,66,67,68]) (s (e dn [69,70,71,72,73,74,75,76,77]) (e ff [6,9,78,79,80,81,82,83,84,85,86,87,88,89]))))))) (d fw [90]))))
def c:=(s (d r0 [0,3]) (s (s (d r1 [10,11]) (i 12 (s (d r2 [1,12,13]) .ret) .skip)) (s (e r3 [12,14,15,16,17,18,19,20]) (s (s (d r4 [21]) (i 22 (s (d r5 [1,4,22,23]) .ret) .skip)) (s (d r6 [22,24,25,26,27,28,29]) (s (s (d r7 [30]) (i 31 (e r8 [31,32,33,34,35]) .skip)) (s (s (d r9 [31]) (b 0 (w l1))) (s (d H1 [1,4,5,36,37,38,91]) .ret))))))))
end LB
def LB:AFn:=⟨1,LB.c,[.cell 2 true 6,.tmp 3],false⟩
structure o8 (L:Lib):Prop extends qa L where
 MM:L 197=some F.MM
 K2:L 198=some F.K2
 OJ:L 199=some F.OJ
 OD:L 200=some F.OD
 P4:L 201=some F.P4
 QB:L 204=some F.QB
 QA:L 205=some F.QA
 QC:L 206=some F.QC
 LB:L 207=some F.LB
end Go.c6.F

namespace Go.c6.F
open C
namespace OG
def r0:=[o 1 (.box 1 0),o 2 (.alloc 2 [(.bool false),.nil,.nil])]
def r1:=[o 3 (.a5 1 0),o 4 (.a5 3 1),o 5 (.ld false 1 4),o 6 (.build [(.bool false),.nil] [(1,1,5)]),o 7 (.a5 1 2),o 8 (.ld false 1 7),
 o 9 (.build [(.bool false),.nil,.nil] [(0,2,6),(2,1,8)]),o 10 (.call 95 [9]),n (.st 3 2 10)]
def c:=(s (d r0 [0]) (s (d r1 [1,3,4,5,6,7,8,9,10]) .ret))
end OG
def OG:AFn:=⟨1,OG.c,[.cell 2 true 3],false⟩
structure y6 (L:Lib):Prop extends o8 L where
 OG:L 256=some F.OG
end Go.c6.F

namespace Go.c6.F
open C
namespace N0
def r0:=[o 1 (.box 1 0),o 2 (.alloc 2 [(.bool false),.nil,.nil])]
def r1:=[o 3 (.ld true 3 1),o 4 (.call 95 [3]),o 5 (.lq 4 2 1 false),o 6 (.build [(.bool false),.nil] [(1,1,5)]),o 7 (.b7 7 1 [(.c (.int .u32 (1)))]),
 o 8 (.build [(.bool false),.nil,.nil] [(0,2,6),(2,1,7)]),n (.st 3 2 8)]
def c:=(s (d r0 [0]) (s (d r1 [1,3,4,5,6,7,8]) .ret))
end N0
def N0:AFn:=⟨1,N0.c,[.cell 2 true 3],false⟩
namespace NY
def r0:=[o 2 (.alloc 2 [(.bool false),.nil,.nil])]
def r1:=[o 10 (.call 96 [(k 1)]),o 3 (.alloc 3 [(.bool false),.nil,.nil]),n (.st 3 3 10)]
def r2:=[m 11 0,o 12 (.len 11),o 13 (.a6 (k 0))]
def r3:=[o 14 (.bin .lss 13 12)]
def r4:=[o 15 (.a8 none 1 11 13),o 16 (.ld false 1 15),m 5 16]
def r5:=[m 17 5,o 18 (.len 17),o 19 (.a6 (k 0))]
def r6:=[o 20 (.bin .lss 19 18)]
def r7:=[o 21 (.a8 none 3 17 19),o 22 (.ld true 3 21),o 7 (.alloc 7 [(.bool false),.nil,.nil]),n (.st 3 7 22)]
def r8:=[q 24 [8] (.ld true 3 3),q 25 [8] (.ld true 3 7),q 26 [8] (.call 294 [25]),q 27 [8] (.call 100 [24,26]),m 23 27,
 o 28 (.ext 23 0),o 29 (.ext 23 1),o 8 (.alloc 8 [(.bool false),.nil,.nil]),n (.st 3 8 28),m 9 29]
def r9:=[o 30 (.ld true 3 3),o 31 (.ld true 3 8),o 32 (.call 294 [31]),o 33 (.call 99 [30,32]),n (.st 3 3 33)]
def BI:=[o 34 (.bin .add 19 (k 1)),m 19 34]
def BK:=[o 35 (.bin .add 13 (k 1)),m 13 35]
def o0:=[o 36 (.ld true 3 3),n (.st 3 2 36)]
def l2:=(s (p r6) (s (i 20 .skip (x 2)) (s (b 3 (s (d r7 [20,21,22]) (s (e r8 [7,9,23,24,25,26,27,28,29]) (e r9 [8,30,31,32,33])))) (d BI [34]))))
def l1:=(s (p r3) (s (i 14 .skip (x 0)) (s (b 1 (s (d r4 [14,15,16]) (s (d r5 [5]) (b 2 (w l2))))) (d BK [17,18,19,20,35]))))
def c:=(s (p r0) (s (d r1 [10]) (s (s (d r2 [0]) (b 0 (w l1))) (s (d o0 [3,11,12,13,14,36]) .ret))))
end NY
def NY:AFn:=⟨1,NY.c,[.cell 2 true 3],false⟩
namespace OA
def r0:=[o 3 (.box 3 1),o 4 (.a6 (.c .nil))]
def r1:=[m 7 0,o 8 (.len 7),o 9 (.mk 9 3 56 [(.bool false),.nil,.nil] 8 8),m 5 9]
def r2:=[m 10 0,o 11 (.len 10),o 12 (.a6 (k 0))]
def r3:=[o 13 (.bin .lss 12 11)]
def r4:=[m 14 12,m 6 14]
def r5:=[m 15 5,m 16 6,m 17 0,m 18 6,o 19 (.a8 none 3 17 18),o 20 (.ld true 3 19),o 21 (.ld true 3 3),o 22 (.call 99 [20,21]),o 23 (.a8 none 3 15 16),
 n (.st 3 23 22)]
def r6:=[o 24 (.bin .add 12 (k 1)),m 12 24]
def r7:=[m 25 5,m 4 25]
def l1:=(s (p r3) (s (i 13 .skip (x 0)) (s (b 1 (s (d r4 [13,14]) (e r5 [6,15,16,17,18,19,20,21,22,23]))) (d r6 [24]))))
def c:=(s (d r0 [1,4]) (s (d r1 [7,8,9]) (s (s (d r2 [10]) (b 0 (w l1))) (s (d r7 [0,3,5,11,12,13,25]) .ret))))
end OA
def OA:AFn:=⟨2,OA.c,[.tmp 4],false⟩
namespace N1
def r0:=[o 4 (.alloc 4 [(.bool false),.nil,.nil])]
def r1:=[o 7 (.call 96 [(k 0)]),o 5 (.alloc 5 [(.bool false),.nil,.nil]),n (.st 3 5 7)]
def r2:=[m 8 0,o 9 (.len 8),o 10 (.a6 (k 0))]
def r3:=[o 11 (.bin .lss 10 9)]
def r4:=[m 12 10,m 6 12]
def r5:=[m 13 0,m 14 6,o 15 (.a8 none 3 13 14),o 16 (.ld true 3 15),o 17 (.call 97 [16]),o 18 (.bin .neq 17 (k 0)),m 19 18,g 20 19 true (.a6 1),
 g 21 19 true (.a6 6),g 22 19 true (.a8 none 3 20 21),g 23 19 true (.ld true 3 22),g 24 19 true (.call 97 [23]),g 25 19 true (.bin .neq 24 (k 0)),
 o 26 (.pick 19 25 (.c (.bool false)))]
def r6:=[o 27 (.ld true 3 5),m 28 0,m 29 6,o 30 (.a8 none 3 28 29),o 31 (.ld true 3 30),m 32 1,m 33 6,o 34 (.a8 none 3 32 33),o 35 (.ld true 3 34),
 o 36 (.call 99 [31,35]),o 37 (.call 98 [27,36]),n (.st 3 5 37)]
def r7:=[o 38 (.bin .add 10 (k 1)),m 10 38]
def r8:=[o 39 (.ld true 3 5),n (.st 3 4 39)]
def l1:=(s (p r3) (s (i 11 .skip (x 0)) (s (b 1 (s (d r4 [11,12]) (s (d r5 [13,14,15,16,17,18,19,20,21,22,23,24,25]) (i 26 (e r6 [6,26,27,28,29,30,31,32,33,34,35,36,37]) .skip)))) (d r7 [6,26,38]))))
def c:=(s (p r0) (s (d r1 [7]) (s (s (d r2 [8]) (b 0 (w l1))) (s (d r8 [0,1,5,9,10,11,39]) .ret))))
end N1
def N1:AFn:=⟨2,N1.c,[.cell 4 true 3],false⟩
namespace NU
def r0:=[o 4 (.a6 (.c .nil))]
def r1:=[m 7 0,o 8 (.len 7),o 9 (.mk 9 3 56 [(.bool false),.nil,.nil] 8 8),m 5 9]
def r2:=[m 10 0,o 11 (.len 10),o 12 (.a6 (k 0))]
def r3:=[o 13 (.bin .lss 12 11)]
def r4:=[m 14 12,m 6 14]
def r5:=[m 15 5,m 16 6,m 17 0,m 18 6,o 19 (.a8 none 1 17 18),o 20 (.ld false 1 19),m 21 1,o 22 (.call 297 [20,21]),o 23 (.a8 none 3 15 16),n (.st 3 23 22)]
def r6:=[o 24 (.bin .add 12 (k 1)),m 12 24]
def r7:=[m 25 5,m 4 25]
def l1:=(s (p r3) (s (i 13 .skip (x 0)) (s (b 1 (s (d r4 [13,14]) (d r5 [6,15,16,17,18,19,20,21,22,23]))) (d r6 [24]))))
def c:=(s (d r0 [4]) (s (d r1 [7,8,9]) (s (s (d r2 [10]) (b 0 (w l1))) (s (d r7 [0,1,5,11,12,13,25]) .ret))))
end NU
def NU:AFn:=⟨2,NU.c,[.tmp 4],false⟩
namespace N8
def r0:=[o 2 (.a6 (.c .nil))]
def r1:=[m 10 0,o 11 (.len 10),m 3 11]
def r2:=[m 12 3,o 13 (.mk 13 1 24 [.nil] 12 12),m 4 13]
def r3:=[m 14 3,o 15 (.a6 (k 0))]
def r4:=[o 16 (.bin .lss 15 14)]
def r5:=[m 17 15,m 5 17]
def r6:=[m 18 4,m 19 5,m 20 3,o 21 (.mk 21 3 56 [(.bool false),.nil,.nil] 20 20),o 22 (.a8 none 1 18 19),n (.st 1 22 21)]
def r7:=[o 23 (.bin .add 15 (k 1)),m 15 23]
def r8:=[m 24 3,o 25 (.mk 25 3 56 [(.bool false),.nil,.nil] 24 24),m 6 25]
def r9:=[m 26 3,o 27 (.a6 (k 0))]
def BI:=[o 28 (.bin .lss 27 26)]
def BK:=[m 29 27,m 7 29]
def o0:=[m 30 3,o 31 (.a6 (k 0))]
def BX:=[o 32 (.bin .lss 31 30)]
def u7:=[m 33 31,m 8 33]
def w3:=[m 34 6,m 35 8,m 36 0,m 37 8,o 38 (.a8 none 1 36 37),o 39 (.ld false 1 38),m 40 7,o 41 (.a8 none 3 39 40),o 42 (.ld true 3 41),
 o 43 (.a8 none 3 34 35),n (.st 3 43 42)]
def x5:=[o 44 (.bin .add 31 (k 1)),m 31 44]
def CX:=[m 45 3,o 46 (.a6 (k 0))]
def z9:=[o 47 (.bin .lss 46 45)]
def ax:=[m 48 46,m 9 48]
def az:=[m 49 4,m 50 9,o 51 (.a8 none 1 49 50),o 52 (.ld false 1 51),m 53 7,m 54 0,m 55 9,o 56 (.a8 none 1 54 55),o 57 (.ld false 1 56),m 58 6,
 o 59 (.call 297 [57,58]),o 60 (.a8 none 3 52 53),n (.st 3 60 59)]
def dn:=[o 61 (.bin .add 46 (k 1)),m 46 61]
def ff:=[o 62 (.bin .add 27 (k 1)),m 27 62]
def fw:=[m 63 4,m 2 63]
def l1:=(s (p r4) (s (i 16 .skip (x 0)) (s (b 1 (s (d r5 [16,17]) (d r6 [5,18,19,20,21,22]))) (d r7 [23]))))
def l3:=(s (p BX) (s (i 32 .skip (x 4)) (s (b 5 (s (d u7 [32,33]) (d w3 [8,34,35,36,37,38,39,40,41,42,43]))) (d x5 [44]))))
def l4:=(s (p z9) (s (i 47 .skip (x 6)) (s (b 7 (s (d ax [47,48]) (e az [9,49,50,51,52,53,54,55,56,57,58,59,60]))) (d dn [61]))))
def l2:=(s (p BI) (s (i 28 .skip (x 2)) (s (b 3 (s (d BK [28,29]) (s (s (p o0) (b 4 (w l3))) (s (d CX [30,31,32]) (b 6 (w l4)))))) (d ff [7,45,46,47,62]))))
def c:=(s (d r0 [2]) (s (d r1 [10,11]) (s (d r2 [12,13]) (s (s (p r3) (b 0 (w l1))) (s (d r8 [14,15,16,24,25]) (s (s (p r9) (b 2 (w l2))) (s (d fw [0,3,4,6,26,27,28,63]) .ret)))))))
end N8
def N8:AFn:=⟨1,N8.c,[.tmp 2],false⟩
namespace OB
def r0:=[o 2 (.alloc 2 [(.bool false),.nil,.nil])]
def r1:=[o 6 (.call 96 [(k 0)]),o 3 (.alloc 3 [(.bool false),.nil,.nil]),n (.st 3 3 6)]
def r2:=[m 7 0,o 8 (.len 7),o 9 (.a6 (k 0))]
def r3:=[o 10 (.bin .lss 9 8)]
def r4:=[o 11 (.a8 none 3 7 9),o 12 (.ld true 3 11),o 5 (.alloc 5 [(.bool false),.nil,.nil]),n (.st 3 5 12)]
def r5:=[o 13 (.ld true 3 3),o 14 (.ld true 3 5),o 15 (.call 256 [14]),o 16 (.call 98 [13,15]),n (.st 3 3 16)]
def r6:=[o 17 (.bin .add 9 (k 1)),m 9 17]
def r7:=[o 18 (.ld true 3 3),n (.st 3 2 18)]
def l1:=(s (p r3) (s (i 10 .skip (x 0)) (s (b 1 (s (d r4 [10,11,12]) (e r5 [5,13,14,15,16]))) (d r6 [17]))))
def c:=(s (p r0) (s (d r1 [6]) (s (s (d r2 [0]) (b 0 (w l1))) (s (d r7 [3,7,8,9,10,18]) .ret))))
end OB
def OB:AFn:=⟨1,OB.c,[.cell 2 true 3],false⟩
namespace N5
def r0:=[o 2 (.alloc 2 [(.bool false),.nil,.nil])]
def r1:=[o 7 (.call 96 [(k 0)]),o 3 (.alloc 3 [(.bool false),.nil,.nil]),n (.st 3 3 7)]
def r2:=[m 8 0,o 9 (.len 8),o 10 (.a6 (k 0))]
def r3:=[o 11 (.bin .lss 10 9)]
def r4:=[o 12 (.a8 none 3 8 10),o 13 (.ld true 3 12),o 5 (.alloc 5 [(.bool false),.nil,.nil]),n (.st 3 5 13)]
def r5:=[o 14 (.ld true 3 5),o 15 (.call 256 [14]),o 6 (.alloc 6 [(.bool false),.nil,.nil]),n (.st 3 6 15)]
def r6:=[o 16 (.ld true 3 6),o 17 (.ld true 3 3),o 18 (.call 198 [16,17]),o 19 (.bin .gtr 18 (k 0))]
def r7:=[o 20 (.ld true 3 6),n (.st 3 3 20)]
def r8:=[o 21 (.bin .add 10 (k 1)),m 10 21]
def r9:=[o 22 (.ld true 3 3),n (.st 3 2 22)]
def l1:=(s (p r3) (s (i 11 .skip (x 0)) (s (b 1 (s (d r4 [11,12,13]) (s (d r5 [5,14,15]) (s (d r6 [16,17,18]) (i 19 (d r7 [6,19,20]) .skip))))) (d r8 [6,19,21]))))
def c:=(s (p r0) (s (d r1 [7]) (s (s (d r2 [0]) (b 0 (w l1))) (s (d r9 [3,8,9,10,11,22]) .ret))))
end N5
def N5:AFn:=⟨1,N5.c,[.cell 2 true 3],false⟩
namespace NZ
def r0:=[o 3 (.box 3 1),o 4 (.a6 (.c (.bool false)))]
def r1:=[m 8 0,o 9 (.len 8),o 10 (.a6 (k 0))]
def r2:=[o 11 (.bin .lss 10 9)]
def r3:=[o 12 (.a8 none 1 8 10),o 13 (.ld false 1 12),m 6 13]
def r4:=[m 14 6,o 15 (.call 300 [14]),o 7 (.alloc 7 [(.bool false),.nil,.nil]),n (.st 3 7 15)]
def r5:=[o 16 (.ld true 3 7),o 17 (.ld true 3 7),o 18 (.call 98 [16,17]),o 19 (.ld true 3 3),o 20 (.call 198 [18,19]),o 21 (.bin .gtr 20 (k 0))]
def r6:=[o 4 (.a6 (.c (.bool false)))]
def r7:=[o 22 (.bin .add 10 (k 1)),m 10 22]
def r8:=[o 4 (.a6 (.c (.bool true)))]
def l1:=(s (p r2) (s (i 11 .skip (x 0)) (s (b 1 (s (d r3 [11,12,13]) (s (d r4 [6,14,15]) (s (e r5 [7,16,17,18,19,20]) (i 21 (s (d r6 [3,8,9,10,21]) .ret) .skip))))) (d r7 [21,22]))))
def c:=(s (d r0 [1,4]) (s (s (d r1 [0]) (b 0 (w l1))) (s (d r8 [3,8,9,10,11]) .ret)))
end NZ
def NZ:AFn:=⟨2,NZ.c,[.tmp 4],false⟩
namespace N9
def r0:=[o 2 (.alloc 2 [.nil,(.bool false),.nil,.nil,z,(.bool false),.nil,.nil]),o 3 (.a6 (k 0))]
def r1:=[m 9 0,o 10 (.call 295 [9]),o 11 (.call 96 [(k 1)]),
 o 12 (.build [.nil,(.bool false),.nil,.nil,z,(.bool false),.nil,.nil] [(1,3,10),(4,1,(k 1)),(5,3,11)]),
 o 4 (.alloc 4 [.nil,(.bool false),.nil,.nil,z,(.bool false),.nil,.nil]),n (.st 8 4 12)]
def r2:=[m 13 0,o 14 (.len 13),o 15 (.a6 (k 0))]
def r3:=[o 16 (.bin .lss 15 14)]
def r4:=[o 17 (.a8 none 1 13 15),o 18 (.ld false 1 17),m 6 18]
def r5:=[o 19 (.a5 4 0),q 20 [25] (.ld false 1 19),m 21 6,o 22 (.a5 4 1),o 23 (.ld true 3 22),o 24 (.call 296 [21,23]),o 25 (.b7 25 1 [24]),
 o 26 (.app 26 1 24 20 25),o 27 (.a5 4 0),n (.st 1 27 26)]
def r6:=[o 28 (.bin .add 15 (k 1)),m 15 28]
def r7:=[o 29 (.a5 4 0),q 30 [8] (.ld false 1 29),o 31 (.a5 4 1),q 32 [8] (.ld true 3 31),o 8 (.alloc 8 [(.bool false),.nil,.nil]),
 m 7 30,n (.st 3 8 32)]
def r8:=[m 33 7,o 34 (.ld true 3 8),o 35 (.call 302 [33,34]),o 36 (.un .not 35)]
def r9:=[o 37 (.a5 4 4),o 38 (.ld false 1 37),o 39 (.bin .eql 38 (k 64))]
def BI:=[o 40 (.build [.nil,(.bool false),.nil,.nil,z,(.bool false),.nil,.nil] []),n (.st 8 2 40),o 3 (.a6 (k 14))]
def BK:=[m 41 7,o 42 (.call 299 [41]),o 43 (.ld true 3 8),o 44 (.ld true 3 8),o 45 (.call 99 [43,44]),m 7 42,n (.st 3 8 45)]
def o0:=[o 46 (.a5 4 4),o 47 (.ld false 1 46),o 48 (.bin .mul 47 (k 2)),o 49 (.a5 4 4),n (.st 1 49 48)]
def BX:=[o 50 (.a5 4 4),o 51 (.ld false 1 50),o 52 (.bin .mul (k 2) 51),o 53 (.bin .sub 52 (k 1)),o 54 (.a6 (k 0))]
def u7:=[o 55 (.bin .lss 54 53)]
def w3:=[o 56 (.a5 4 5),o 57 (.ld true 3 56),o 58 (.a5 4 1),o 59 (.ld true 3 58),o 60 (.call 99 [57,59]),o 61 (.a5 4 5),n (.st 3 61 60)]
def x5:=[o 62 (.bin .add 54 (k 1)),m 54 62]
def CX:=[o 63 (.ld true 8 4),n (.st 8 2 63),o 3 (.a6 (k 0))]
def l1:=(s (p r3) (s (i 16 .skip (x 0)) (s (b 1 (s (d r4 [16,17,18]) (e r5 [6,19,20,21,22,23,24,25,26,27]))) (d r6 [28]))))
def l2:=(s (s (d r8 [33,34,35]) (i 36 .skip (x 2))) (b 3 (s (s (d r9 [36,37,38]) (i 39 (s (d BI [4,7,8,39,40]) .ret) .skip)) (s (e BK [39,41,42,43,44,45]) (d o0 [46,47,48,49])))))
def l3:=(s (p u7) (s (i 55 .skip (x 4)) (s (b 5 (d w3 [55,56,57,58,59,60,61])) (d x5 [62]))))
def c:=(s (d r0 [3]) (s (d r1 [9,10,11,12]) (s (s (d r2 [0]) (b 0 (w l1))) (s (e r7 [13,14,15,16,29,30,31,32]) (s (b 2 (w l2)) (s (s (d BX [7,8,36,50,51,52]) (b 4 (w l3))) (s (d CX [4,53,54,55,63]) .ret)))))))
end N9
def N9:AFn:=⟨1,N9.c,[.cell 2 true 8,.tmp 3],false⟩
namespace N3
def r0:=[o 2 (.box 2 0),o 4 (.alloc 4 [.nil,(.bool false),.nil,.nil])]
def r1:=[o 8 (.call 96 [(k 0)]),o 9 (.build [.nil,(.bool false),.nil,.nil] [(1,3,8)]),o 5 (.alloc 5 [.nil,(.bool false),.nil,.nil]),n (.st 4 5 9)]
def r2:=[m 10 1,m 6 10]
def r3:=[o 11 (.a5 2 4),o 12 (.ld false 1 11),o 13 (.bin .mul (k 2) 12),o 14 (.a6 (k 0))]
def r4:=[o 15 (.bin .lss 14 13)]
def r5:=[m 16 14,m 7 16]
def r6:=[m 17 7,o 18 (.bin .gtr 17 (k 0))]
def r7:=[o 19 (.a5 2 0),o 20 (.ld false 1 19),m 21 6,o 22 (.call 298 [20,21]),m 6 22]
def r8:=[o 23 (.a5 5 0),o 24 (.ld false 1 23),m 25 6,o 26 (.b7 26 1 [25]),o 27 (.app 27 1 24 24 26),o 28 (.a5 5 0),n (.st 1 28 27)]
def r9:=[m 29 7,o 30 (.a5 2 4),o 31 (.ld false 1 30),o 32 (.bin .geq 29 31)]
def BI:=[o 33 (.a5 5 1),o 34 (.ld true 3 33),o 35 (.a5 2 1),o 36 (.ld true 3 35),o 37 (.call 99 [34,36]),m 38 6,o 39 (.call 301 [38]),
 o 40 (.call 98 [37,39]),o 41 (.a5 5 1),n (.st 3 41 40)]
def BK:=[o 42 (.bin .add 14 (k 1)),m 14 42]
def o0:=[o 43 (.ld true 4 5),n (.st 4 4 43)]
def l1:=(s (p r4) (s (i 15 .skip (x 0)) (s (b 1 (s (d r5 [15,16]) (s (s (d r6 [17]) (i 18 (d r7 [18,19,20,21,22]) .skip)) (s (d r8 [18,23,24,25,26,27,28]) (s (d r9 [7,29,30,31]) (i 32 (d BI [32,33,34,35,36,37,38,39,40,41]) .skip)))))) (d BK [32,42]))))
def c:=(s (d r0 [0]) (s (d r1 [8,9]) (s (d r2 [1,10]) (s (s (d r3 [11,12]) (b 0 (w l1))) (s (d o0 [2,5,6,13,14,15,43]) .ret)))))
end N3
def N3:AFn:=⟨2,N3.c,[.cell 4 true 4],false⟩
namespace N2
def r0:=[o 3 (.box 3 0),o 5 (.box 5 2),o 6 (.alloc 6 [(.bool false),.nil,.nil])]
def r1:=[o 10 (.call 96 [(k 0)]),o 7 (.alloc 7 [(.bool false),.nil,.nil]),n (.st 3 7 10)]
def r2:=[o 11 (.a5 5 0),o 12 (.ld false 1 11),o 13 (.len 12),o 14 (.a6 (k 0))]
def r3:=[o 15 (.bin .lss 14 13)]
def r4:=[o 16 (.a8 none 1 12 14),o 17 (.ld false 1 16),m 9 17]
def r5:=[o 18 (.ld true 3 7),o 19 (.a5 3 1),o 20 (.ld true 3 19),o 21 (.call 99 [18,20]),m 22 1,m 23 9,o 24 (.call 297 [22,23]),o 25 (.call 256 [24]),
 o 26 (.call 98 [21,25]),n (.st 3 7 26)]
def r6:=[o 27 (.bin .add 14 (k 1)),m 14 27]
def r7:=[o 28 (.ld true 3 7),m 29 1,o 30 (.call 300 [29]),o 31 (.a5 5 1),o 32 (.ld true 3 31),o 33 (.call 99 [30,32]),o 34 (.call 98 [28,33]),n (.st 3 6 34)]
def l1:=(s (p r3) (s (i 15 .skip (x 0)) (s (b 1 (s (d r4 [15,16,17]) (d r5 [9,18,19,20,21,22,23,24,25,26]))) (d r6 [27]))))
def c:=(s (d r0 [0,2]) (s (d r1 [10]) (s (s (d r2 [11]) (b 0 (w l1))) (s (e r7 [1,3,5,7,12,13,14,15,28,29,30,31,32,33,34]) .ret))))
end N2
def N2:AFn:=⟨3,N2.c,[.cell 6 true 3],false⟩
namespace NT
def r0:=[o 1 (.box 1 0),o 2 (.alloc 2 [(.bool false),.nil,.nil]),o 3 (.a6 (k 0))]
def r1:=[o 11 (.ld true 6 1),o 12 (.call 130 [11]),o 13 (.un .not 12),m 14 13,g 15 14 false (.a5 1 0),g 16 14 false (.ld false 1 15),g 17 14 false (.len 16),
 g 18 14 false (.bin .gtr 17 (k 16)),o 19 (.pick 14 (.c (.bool true)) 18)]
def r2:=[o 20 (.build [(.bool false),.nil,.nil] []),n (.st 3 2 20),o 3 (.a6 (k 2))]
def r3:=[o 22 (.a5 1 0),o 23 (.ld false 1 22),o 24 (.call 303 [23]),m 21 24,o 25 (.ext 21 0),o 26 (.ext 21 1),
 o 4 (.alloc 4 [.nil,(.bool false),.nil,.nil,z,(.bool false),.nil,.nil]),n (.st 8 4 25),m 5 26]
def r4:=[m 27 5,o 28 (.bin .neq 27 (k 0))]
def r5:=[o 29 (.build [(.bool false),.nil,.nil] []),m 30 5,n (.st 3 2 29),m 3 30]
def r6:=[o 31 (.a5 1 1),q 32 [37,6,7] (.ld false 1 31),o 33 (.b7 33 1 [32]),q 34 [37,6,7] (.call 295 [33]),o 35 (.a5 1 2),
 q 36 [33,6,7] (.ld false 1 35),o 37 (.b7 37 1 [36]),q 38 [6,7] (.call 295 [37]),o 6 (.alloc 6 [(.bool false),.nil,.nil]),
 o 7 (.alloc 7 [(.bool false),.nil,.nil]),n (.st 3 6 34),n (.st 3 7 38)]
def r7:=[q 39 [8] (.ld true 8 4),o 40 (.a5 1 2),q 41 [8] (.ld false 1 40),q 42 [8] (.ld true 3 7),
 q 43 [8] (.call 296 [41,42]),q 44 [8] (.ld true 8 4),o 45 (.a5 1 1),q 46 [8] (.ld false 1 45),
 q 47 [8] (.ld true 3 6),q 48 [8] (.call 296 [46,47]),q 49 [8] (.m5 304 [44,48]),
 q 50 [8] (.call 305 [39,43,49]),o 8 (.alloc 8 [(.bool false),.nil,.nil]),n (.st 3 8 50)]
def r8:=[q 52 [9] (.ld true 3 8),o 53 (.a5 4 5),q 54 [9] (.ld true 3 53),q 55 [9] (.ld true 3 6),
 q 56 [9] (.ld true 3 7),q 57 [9] (.call 99 [55,56]),q 58 [9] (.call 99 [54,57]),q 59 [9] (.call 100 [52,58]),
 m 51 59,o 60 (.ext 51 0),o 61 (.ext 51 1),o 9 (.alloc 9 [(.bool false),.nil,.nil]),n (.st 3 9 60),m 10 61]
def r9:=[o 62 (.a5 1 3),o 63 (.ld true 3 62),o 64 (.call 256 [63]),o 65 (.ld true 3 9),o 66 (.call 98 [64,65]),n (.st 3 2 66),o 3 (.a6 (k 0))]
def c:=(s (d r0 [0,3]) (s (s (d r1 [11,12,13,14,15,16,17,18]) (i 19 (s (d r2 [1,19,20]) .ret) .skip)) (s (d r3 [19,21,22,23,24,25,26]) (s (s (d r4 [27]) (i 28 (s (d r5 [1,4,5,28,29,30]) .ret) .skip)) (s (e r6 [5,28,31,32,33,34,35,36,37,38]) (s (e r7 [39,40,41,42,43,44,45,46,47,48,49,50]) (s (e r8 [4,6,7,8,10,51,52,53,54,55,56,57,58,59,60,61]) (s (e r9 [1,9,62,63,64,65,66]) .ret))))))))
end NT
def NT:AFn:=⟨1,NT.c,[.cell 2 true 3,.tmp 3],false⟩
structure m4 (L:Lib):Prop extends y6 L where
 N0:L 294=some F.N0
 NY:L 295=some F.NY
 OA:L 296=some F.OA
 N1:L 297=some F.N1
 NU:L 298=some F.NU
 N8:L 299=some F.N8
 OB:L 300=some F.OB
 N5:L 301=some F.N5
 NZ:L 302=some F.NZ
 N9:L 303=some F.N9
 N3:L 304=some F.N3
 N2:L 305=some F.N2
 NT:L 307=some F.NT
end Go.c6.F

namespace Go.c6.F
open C
namespace OY
def r0:=[o 1 (.box 1 0),o 2 (.alloc 2 [(.bool false),.nil])]
def r1:=[o 3 (.a5 1 1),o 4 (.ld false 1 3),o 5 (.call 101 [4]),o 6 (.build [(.bool false),.nil] [(1,1,5)]),n (.st 2 2 6)]
def c:=(s (d r0 [0]) (s (d r1 [1,3,4,5,6]) .ret))
end OY
def OY:AFn:=⟨1,OY.c,[.cell 2 true 2],false⟩
namespace O9
def r0:=[o 1 (.box 1 0),o 2 (.alloc 2 [(.bool false),.nil,.nil])]
def r1:=[o 3 (.ld true 3 1),o 4 (.call 123 [3]),n (.st 3 1 4)]
def r2:=[o 5 (.a5 1 0),o 6 (.ld true 2 5),o 7 (.call 308 [6]),o 8 (.a5 1 0),n (.st 2 8 7)]
def r3:=[o 9 (.ld true 3 1),n (.st 3 2 9)]
def c:=(s (d r0 [0]) (s (d r1 [3,4]) (s (d r2 [5,6,7,8]) (s (d r3 [1,9]) .ret))))
end O9
def O9:AFn:=⟨1,O9.c,[.cell 2 true 3],false⟩
namespace P2
def r0:=[o 2 (.a6 (.c (.bool false)))]
def r1:=[o 3 (.a6 (k 0))]
def r2:=[m 4 3,m 5 0,o 6 (.len 5),o 7 (.bin .lss 4 6)]
def r4:=[m 10 0,m 11 3,o 12 (.a8 none 1 10 11),o 13 (.ld false 1 12),o 14 (.len 13),m 15 0,o 16 (.len 15),o 17 (.bin .neq 14 16)]
def r5:=[o 2 (.a6 (.c (.bool false)))]
def r3:=[m 8 3,o 9 (.bin .add 8 (k 1)),m 3 9]
def r6:=[m 18 0,o 19 (.len 18),o 20 (.bin .leq 19 (k 16)),m 2 20]
def l1:=(s (s (d r2 [4,5,6]) (i 7 .skip (x 0))) (s (b 1 (s (d r4 [7,10,11,12,13,14,15,16]) (i 17 (s (d r5 [0,3,17]) .ret) .skip))) (d r3 [8,9,17])))
def c:=(s (d r0 [2]) (s (s (p r1) (b 0 (w l1))) (s (d r6 [0,3,7,18,19,20]) .ret)))
end P2
def P2:AFn:=⟨1,P2.c,[.tmp 2],false⟩
namespace PZ
def r0:=[o 2 (.alloc 2 [(.bool false),.nil,.nil])]
def r1:=[o 5 (.call 124 [(k 0)]),o 3 (.alloc 3 [(.bool false),.nil,.nil]),n (.st 3 3 5)]
def r2:=[o 4 (.a6 (k 0))]
def r3:=[m 6 4,m 7 0,o 8 (.len 7),o 9 (.bin .lss 6 8)]
def r5:=[o 12 (.ld true 3 3),m 13 0,m 14 4,o 15 (.a8 none 3 13 14),o 16 (.ld true 3 15),o 17 (.call 309 [16]),o 18 (.call 126 [12,17]),n (.st 3 3 18)]
def r4:=[m 10 4,o 11 (.bin .add 10 (k 1)),m 4 11]
def r6:=[o 19 (.ld true 3 3),n (.st 3 2 19)]
def l1:=(s (s (d r3 [6,7,8]) (i 9 .skip (x 0))) (s (b 1 (e r5 [9,12,13,14,15,16,17,18])) (d r4 [10,11])))
def c:=(s (p r0) (s (d r1 [5]) (s (s (p r2) (b 0 (w l1))) (s (d r6 [0,3,4,9,19]) .ret))))
end PZ
def PZ:AFn:=⟨1,PZ.c,[.cell 2 true 3],false⟩
namespace PV
def r0:=[o 2 (.alloc 2 [(.bool false),.nil,.nil])]
def r1:=[o 5 (.call 124 [(k 0)]),o 3 (.alloc 3 [(.bool false),.nil,.nil]),n (.st 3 3 5)]
def r2:=[o 4 (.a6 (k 0))]
def r3:=[m 6 4,m 7 0,o 8 (.len 7),o 9 (.bin .lss 6 8)]
def r5:=[m 12 0,m 13 4,o 14 (.a8 none 3 12 13),o 15 (.ld true 3 14),o 16 (.call 309 [15]),o 17 (.ld true 3 3),o 18 (.call 127 [16,17]),
 o 19 (.bin .gtr 18 (k 0))]
def r6:=[m 20 0,m 21 4,o 22 (.a8 none 3 20 21),o 23 (.ld true 3 22),o 24 (.call 309 [23]),n (.st 3 3 24)]
def r4:=[m 10 4,o 11 (.bin .add 10 (k 1)),m 4 11]
def r7:=[o 25 (.ld true 3 3),n (.st 3 2 25)]
def l1:=(s (s (d r3 [6,7,8]) (i 9 .skip (x 0))) (s (b 1 (s (e r5 [9,12,13,14,15,16,17,18]) (i 19 (d r6 [19,20,21,22,23,24]) .skip))) (d r4 [10,11,19])))
def c:=(s (p r0) (s (d r1 [5]) (s (s (p r2) (b 0 (w l1))) (s (d r7 [0,3,4,9,25]) .ret))))
end PV
def PV:AFn:=⟨1,PV.c,[.cell 2 true 3],false⟩
namespace P3
def r0:=[o 2 (.a6 (.c .nil))]
def r1:=[m 8 0,o 9 (.len 8),o 10 (.mk 10 1 24 [.nil] 9 9),m 3 10]
def r2:=[o 4 (.a6 (k 0))]
def r3:=[m 11 4,m 12 0,o 13 (.len 12),o 14 (.bin .lss 11 13)]
def r5:=[o 5 (.a6 (k 0))]
def r6:=[m 17 5,m 18 0,o 19 (.len 18),o 20 (.bin .lss 17 19)]
def r8:=[o 23 (.call 124 [(k 0)]),o 6 (.alloc 6 [(.bool false),.nil,.nil]),n (.st 3 6 23)]
def r9:=[o 7 (.a6 (k 0))]
def BI:=[m 24 7,m 25 0,o 26 (.len 25),o 27 (.bin .lss 24 26)]
def o0:=[o 30 (.ld true 3 6),m 31 0,m 32 4,o 33 (.a8 none 1 31 32),o 34 (.ld false 1 33),m 35 7,o 36 (.a8 none 3 34 35),o 37 (.ld true 3 36),m 38 0,m 39 7,
 o 40 (.a8 none 1 38 39),o 41 (.ld false 1 40),m 42 5,o 43 (.a8 none 3 41 42),o 44 (.ld true 3 43),o 45 (.call 128 [37,44]),
 o 46 (.call 126 [30,45]),n (.st 3 6 46)]
def BK:=[m 28 7,o 29 (.bin .add 28 (k 1)),m 7 29]
def BX:=[m 47 3,m 48 4,m 49 3,m 50 4,o 51 (.a8 none 1 49 50),q 52 [54] (.ld false 1 51),o 53 (.ld true 3 6),o 54 (.b7 54 3 [53]),
 o 55 (.app 55 3 56 52 54),o 56 (.a8 none 1 47 48),n (.st 1 56 55)]
def r7:=[m 21 5,o 22 (.bin .add 21 (k 1)),m 5 22]
def r4:=[m 15 4,o 16 (.bin .add 15 (k 1)),m 4 16]
def u7:=[m 57 3,m 2 57]
def l3:=(s (s (d BI [24,25,26]) (i 27 .skip (x 4))) (s (b 5 (e o0 [27,30,31,32,33,34,35,36,37,38,39,40,41,42,43,44,45,46])) (d BK [28,29])))
def l2:=(s (s (d r6 [17,18,19]) (i 20 .skip (x 2))) (s (b 3 (s (d r8 [20,23]) (s (s (p r9) (b 4 (w l3))) (e BX [6,7,27,47,48,49,50,51,52,53,54,55,56])))) (d r7 [21,22])))
def l1:=(s (s (d r3 [11,12,13]) (i 14 .skip (x 0))) (s (b 1 (s (d r5 [14]) (b 2 (w l2)))) (d r4 [5,15,16,20])))
def c:=(s (d r0 [2]) (s (d r1 [8,9,10]) (s (s (p r2) (b 0 (w l1))) (s (d u7 [0,3,4,14,57]) .ret))))
end P3
def P3:AFn:=⟨1,P3.c,[.tmp 2],false⟩
namespace PX
def r0:=[o 2 (.a6 (k 0)),o 3 (.a6 (k 0))]
def r1:=[m 7 0,o 8 (.call 310 [7]),o 9 (.un .not 8)]
def r2:=[o 2 (.a6 (k 0)),o 3 (.a6 (k 2))]
def r3:=[o 4 (.a6 (k 1))]
def r4:=[m 10 4,o 11 (.bin .leq 10 (k 64))]
def r6:=[o 5 (.a6 (.c (.bool true)))]
def r7:=[o 6 (.a6 (k 0))]
def r8:=[m 14 6,m 15 0,o 16 (.len 15),o 17 (.bin .lss 14 16)]
def BI:=[m 20 5,m 21 20,g 22 21 true (.a6 0),g 23 21 true (.a6 6),g 24 21 true (.a8 none 1 22 23),g 25 21 true (.ld false 1 24),g 26 21 true (.call 311 [25]),
 g 27 21 true (.call 125 [(k 1),(k 2)]),g 28 21 true (.call 127 [26,27]),g 29 21 true (.bin .leq 28 (k 0)),o 30 (.pick 21 29 (.c (.bool false))),m 5 30]
def r9:=[m 18 6,o 19 (.bin .add 18 (k 1)),m 6 19]
def BK:=[m 31 5]
def o0:=[m 32 4,m 2 32,o 3 (.a6 (k 0))]
def BX:=[m 33 0,o 34 (.call 313 [33]),m 0 34]
def r5:=[m 12 4,o 13 (.bin .mul (k 2) 12),m 4 13]
def u7:=[o 2 (.a6 (k 0)),o 3 (.a6 (k 14))]
def l2:=(s (s (d r8 [14,15,16]) (i 17 .skip (x 2))) (s (b 3 (d BI [17,20,21,22,23,24,25,26,27,28,29,30])) (d r9 [18,19])))
def l1:=(s (s (d r4 [10]) (i 11 .skip (x 0))) (s (b 1 (s (d r6 [11]) (s (s (p r7) (b 2 (w l2))) (s (s (d BK [5,6,17]) (i 31 (s (d o0 [0,4,31,32]) .ret) .skip)) (d BX [31,33,34]))))) (d r5 [12,13])))
def c:=(s (d r0 [2,3]) (s (s (d r1 [7,8]) (i 9 (s (d r2 [0,9]) .ret) .skip)) (s (s (d r3 [9]) (b 0 (w l1))) (s (d u7 [0,4,11]) .ret))))
end PX
def PX:AFn:=⟨1,PX.c,[.tmp 2,.tmp 3],false⟩
namespace P0
def r0:=[o 1 (.box 1 0),o 2 (.alloc 2 [(.bool false),.nil,.nil]),o 3 (.a6 (k 0))]
def r1:=[o 9 (.ld true 6 1),o 10 (.call 136 [9]),o 11 (.un .not 10),m 12 11,g 13 12 false (.a5 1 0),g 14 12 false (.ld false 1 13),g 15 12 false (.len 14),
 g 16 12 false (.bin .gtr 15 (k 16)),o 17 (.pick 12 (.c (.bool true)) 16)]
def r2:=[o 18 (.build [(.bool false),.nil,.nil] []),n (.st 3 2 18),o 3 (.a6 (k 2))]
def r3:=[o 20 (.a5 1 0),o 21 (.ld false 1 20),o 22 (.call 314 [21]),m 19 22,o 23 (.ext 19 0),o 24 (.ext 19 1),m 4 23,m 5 24]
def r4:=[m 25 5,o 26 (.bin .neq 25 (k 0))]
def r5:=[o 27 (.build [(.bool false),.nil,.nil] []),m 28 5,n (.st 3 2 27),m 3 28]
def r6:=[o 29 (.a5 1 3),o 30 (.ld true 3 29),o 31 (.call 309 [30]),o 6 (.alloc 6 [(.bool false),.nil,.nil]),n (.st 3 6 31)]
def r7:=[o 32 (.a5 1 1),o 33 (.ld false 1 32),m 7 33]
def r8:=[o 8 (.a6 (k 0))]
def r9:=[m 34 8,m 35 4,o 36 (.bin .mul (k 2) 35),o 37 (.bin .lss 34 36)]
def BK:=[o 40 (.ld true 3 6),o 41 (.a5 1 2),o 42 (.ld false 1 41),m 43 7,o 44 (.call 137 [42,43]),o 45 (.call 309 [44]),o 46 (.call 126 [40,45]),
 n (.st 3 6 46)]
def o0:=[m 47 8,m 48 4,o 49 (.bin .geq 47 48)]
def BX:=[o 50 (.ld true 3 6),o 51 (.a5 1 2),o 52 (.ld false 1 51),o 53 (.call 311 [52]),m 54 7,o 55 (.call 312 [54]),o 56 (.call 128 [53,55]),
 o 57 (.call 126 [50,56]),n (.st 3 6 57)]
def u7:=[o 58 (.a5 1 0),o 59 (.ld false 1 58),m 60 7,o 61 (.call 138 [59,60]),m 7 61]
def BI:=[m 38 8,o 39 (.bin .add 38 (k 1)),m 8 39]
def w3:=[o 62 (.ld true 3 6),n (.st 3 2 62),o 3 (.a6 (k 0))]
def l1:=(s (s (d r9 [34,35,36]) (i 37 .skip (x 0))) (s (b 1 (s (e BK [37,40,41,42,43,44,45,46]) (s (s (d o0 [47,48]) (i 49 (e BX [49,50,51,52,53,54,55,56,57]) .skip)) (d u7 [49,58,59,60,61])))) (d BI [38,39])))
def c:=(s (d r0 [0,3]) (s (s (d r1 [9,10,11,12,13,14,15,16]) (i 17 (s (d r2 [1,17,18]) .ret) .skip)) (s (d r3 [17,19,20,21,22,23,24]) (s (s (d r4 [25]) (i 26 (s (d r5 [1,4,5,26,27,28]) .ret) .skip)) (s (d r6 [5,26,29,30,31]) (s (d r7 [32,33]) (s (s (p r8) (b 0 (w l1))) (s (d w3 [1,4,6,7,8,37,62]) .ret))))))))
end P0
def P0:AFn:=⟨1,P0.c,[.cell 2 true 3,.tmp 3],false⟩
structure x7 (L:Lib):Prop extends o8 L where
 OY:L 308=some F.OY
 O9:L 309=some F.O9
 P2:L 310=some F.P2
 PZ:L 311=some F.PZ
 PV:L 312=some F.PV
 P3:L 313=some F.P3
 PX:L 314=some F.PX
 P0:L 315=some F.P0
end Go.c6.F

namespace Go.c6.F
open C
namespace PS
def r0:=[o 2 (.box 2 0),o 4 (.a6 (.c .nil))]
def r1:=[o 5 (.y8 5 1)]
def r2:=[m 12 1,o 13 (.bin .geq 12 (k 0))]
def r3:=[m 14 5,o 15 (.a5 2 8),o 16 (.ld false 1 15),o 17 (.bin .add 16 (k 1)),o 18 (.o5 18 135 [17,(k (-1))]),o 19 (.b7 19 1 [18]),
 o 20 (.app 20 1 24 14 19),m 5 20]
def r4:=[m 21 5,o 22 (.a5 2 8),o 23 (.ld false 1 22),o 24 (.bin .add 23 (k 1)),o 25 (.a5 2 8),o 26 (.ld false 1 25),o 27 (.o5 27 135 [24,26]),
 o 28 (.b7 28 1 [27]),o 29 (.app 29 1 24 21 28),m 5 29]
def r5:=[o 6 (.a6 (k 0))]
def r6:=[m 30 6,o 31 (.a5 2 8),o 32 (.ld false 1 31),o 33 (.bin .lss 30 32)]
def r8:=[m 36 5,o 37 (.a5 2 8),o 38 (.ld false 1 37),o 39 (.bin .add 38 (k 1)),m 40 6,o 41 (.o5 41 135 [39,40]),o 42 (.b7 42 1 [41]),
 o 43 (.app 43 1 24 36 42),m 5 43]
def r7:=[m 34 6,o 35 (.bin .add 34 (k 1)),m 6 35]
def r9:=[o 7 (.a6 (k 0))]
def BI:=[m 44 7,o 45 (.a5 2 9),o 46 (.ld false 1 45),o 47 (.len 46),o 48 (.bin .lss 44 47)]
def o0:=[o 51 (.a5 2 8),o 52 (.ld false 1 51),o 53 (.bin .add 52 (k 1)),o 54 (.o5 54 135 [53,(k (-1))]),m 8 54]
def BX:=[o 9 (.a6 (k 0))]
def u7:=[m 55 9,o 56 (.a5 2 9),o 57 (.ld false 1 56),m 58 7,o 59 (.a8 none 1 57 58),o 60 (.a5 59 0),o 61 (.ld false 1 60),o 62 (.len 61),
 o 63 (.bin .lss 55 62)]
def x5:=[o 66 (.a5 2 9),o 67 (.ld false 1 66),m 68 7,o 69 (.a8 none 1 67 68),o 70 (.a5 69 0),o 71 (.ld false 1 70),m 72 9,o 73 (.a8 none 2 71 72),
 o 74 (.ld true 2 73),o 10 (.alloc 10 [z,z]),n (.st 2 10 74)]
def CX:=[o 11 (.a6 (k 0))]
def z9:=[m 75 11,m 76 8,o 77 (.len 76),o 78 (.bin .lss 75 77)]
def az:=[m 81 8,m 82 11,m 83 8,m 84 11,o 85 (.a8 none 3 83 84),o 86 (.ld true 3 85),o 87 (.a5 10 1),o 88 (.ld false 1 87),o 89 (.a5 2 4),
 o 90 (.a5 89 1),o 91 (.ld false 1 90),o 92 (.conv .u64 91),o 93 (.bin .shl (k 1) 92),o 94 (.call 125 [88,93]),m 95 5,o 96 (.a5 10 0),
 o 97 (.ld false 1 96),o 98 (.a8 none 1 95 97),o 99 (.ld false 1 98),m 100 11,o 101 (.a8 none 3 99 100),o 102 (.ld true 3 101),
 o 103 (.call 128 [94,102]),o 104 (.call 126 [86,103]),o 105 (.a8 none 3 81 82),n (.st 3 105 104)]
def ax:=[m 79 11,o 80 (.bin .add 79 (k 1)),m 11 80]
def w3:=[m 64 9,o 65 (.bin .add 64 (k 1)),m 9 65]
def dn:=[m 106 7,m 107 1,o 108 (.bin .eql 106 107)]
def ff:=[m 109 8,o 110 (.a5 2 8),o 111 (.ld false 1 110),m 112 8,o 113 (.a5 2 8),o 114 (.ld false 1 113),o 115 (.a8 none 3 112 114),o 116 (.ld true 3 115),
 o 117 (.call 124 [(k 1)]),o 118 (.call 126 [116,117]),o 119 (.a8 none 3 109 111),n (.st 3 119 118)]
def fw:=[m 120 5,m 121 8,o 122 (.b7 122 1 [121]),o 123 (.app 123 1 24 120 122),m 5 123]
def BK:=[m 49 7,o 50 (.bin .add 49 (k 1)),m 7 50]
def H1:=[m 124 5,m 4 124]
def l1:=(s (s (d r6 [30,31,32]) (i 33 .skip (x 0))) (s (b 1 (d r8 [33,36,37,38,39,40,41,42,43])) (d r7 [34,35])))
def l4:=(s (s (d z9 [75,76,77]) (i 78 .skip (x 6))) (s (b 7 (e az [78,81,82,83,84,85,86,87,88,89,90,91,92,93,94,95,96,97,98,99,100,101,102,103,104,105])) (d ax [79,80])))
def l3:=(s (s (d u7 [55,56,57,58,59,60,61,62]) (i 63 .skip (x 4))) (s (b 5 (s (d x5 [63,66,67,68,69,70,71,72,73,74]) (s (p CX) (b 6 (w l4))))) (d w3 [10,11,64,65,78])))
def l2:=(s (s (d BI [44,45,46,47]) (i 48 .skip (x 2))) (s (b 3 (s (d o0 [48,51,52,53,54]) (s (s (p BX) (b 4 (w l3))) (s (s (d dn [9,63,106,107]) (i 108 (e ff [108,109,110,111,112,113,114,115,116,117,118,119]) .skip)) (d fw [8,108,120,121,122,123]))))) (d BK [49,50])))
def c:=(s (d r0 [0,4]) (s (p r1) (s (s (d r2 [12]) (i 13 (d r3 [13,14,15,16,17,18,19,20]) (d r4 [13,21,22,23,24,25,26,27,28,29]))) (s (s (p r5) (b 0 (w l1))) (s (s (d r9 [6,33]) (b 2 (w l2))) (s (d H1 [1,2,5,7,48,124]) .ret))))))
end PS
def PS:AFn:=⟨2,PS.c,[.tmp 4],false⟩
namespace PT
def r0:=[o 2 (.box 2 0),o 4 (.alloc 4 [.nil,.nil,.nil,(.bool false),.nil,.nil])]
def r1:=[m 7 1,o 8 (.a5 2 11),q 9 [5] (.ld false 1 8),o 10 (.a8 none 1 7 9),q 11 [5] (.ld false 1 10),o 12 (.a5 2 8),
 q 13 [5] (.ld false 1 12),o 14 (.cj 3 11 none (some 13)),m 15 1,o 16 (.a5 2 11),q 17 [5] (.ld false 1 16),
 o 18 (.a8 none 1 15 17),q 19 [5] (.ld false 1 18),o 20 (.a5 2 8),q 21 [5] (.ld false 1 20),o 22 (.a8 none 3 19 21),
 q 23 [5] (.ld true 3 22),o 24 (.build [.nil,.nil,.nil,(.bool false),.nil,.nil] [(2,1,14),(3,3,23)]),
 o 5 (.alloc 5 [.nil,.nil,.nil,(.bool false),.nil,.nil]),n (.st 6 5 24)]
def r2:=[o 6 (.a6 (k 0))]
def r3:=[m 25 6,o 26 (.a5 2 8),o 27 (.ld false 1 26),o 28 (.bin .lss 25 27)]
def r5:=[o 31 (.a5 5 0),q 32 [44] (.ld false 1 31),m 33 1,o 34 (.a5 2 10),o 35 (.ld false 1 34),m 36 6,o 37 (.a8 none 1 35 36),
 o 38 (.ld false 1 37),o 39 (.a8 none 1 33 38),o 40 (.ld false 1 39),o 41 (.a5 2 8),o 42 (.ld false 1 41),o 43 (.cj 3 40 none (some 42)),
 o 44 (.b7 44 1 [43]),o 45 (.app 45 1 24 32 44),o 46 (.a5 5 0),n (.st 1 46 45)]
def r6:=[o 47 (.a5 5 1),q 48 [61] (.ld false 1 47),m 49 1,o 50 (.a5 2 10),o 51 (.ld false 1 50),m 52 6,o 53 (.a8 none 1 51 52),
 o 54 (.ld false 1 53),o 55 (.a8 none 1 49 54),o 56 (.ld false 1 55),o 57 (.a5 2 8),o 58 (.ld false 1 57),o 59 (.a8 none 3 56 58),
 o 60 (.ld true 3 59),o 61 (.b7 61 3 [60]),o 62 (.app 62 3 56 48 61),o 63 (.a5 5 1),n (.st 1 63 62)]
def r4:=[m 29 6,o 30 (.bin .add 29 (k 1)),m 6 30]
def r7:=[o 64 (.ld true 6 5),n (.st 6 4 64)]
def l1:=(s (s (d r3 [25,26,27]) (i 28 .skip (x 0))) (s (b 1 (s (e r5 [28,31,32,33,34,35,36,37,38,39,40,41,42,43,44,45,46]) (e r6 [47,48,49,50,51,52,53,54,55,56,57,58,59,60,61,62,63]))) (d r4 [29,30])))
def c:=(s (d r0 [0]) (s (e r1 [7,8,9,10,11,12,13,14,15,16,17,18,19,20,21,22,23,24]) (s (s (p r2) (b 0 (w l1))) (s (d r7 [1,2,5,6,28,64]) .ret))))
end PT
def PT:AFn:=⟨2,PT.c,[.cell 4 true 6],false⟩
namespace PO
def r0:=[o 1 (.box 1 0),o 2 (.alloc 2 [.nil,.nil,.nil,(.bool false),.nil,.nil]),o 3 (.a6 (k 0))]
def r1:=[o 4 (.ld true 12 1),o 5 (.call 27 [4]),o 6 (.un .not 5)]
def r2:=[o 7 (.build [.nil,.nil,.nil,(.bool false),.nil,.nil] []),n (.st 6 2 7),o 3 (.a6 (k 2))]
def r3:=[o 8 (.ld true 12 1),o 9 (.ld true 12 1),o 10 (.call 163 [9,(k (-1))]),o 11 (.call 164 [8,10]),n (.st 6 2 11),o 3 (.a6 (k 0))]
def c:=(s (d r0 [0,3]) (s (s (d r1 [4,5]) (i 6 (s (d r2 [1,6,7]) .ret) .skip)) (s (e r3 [1,6,8,9,10,11]) .ret)))
end PO
def PO:AFn:=⟨1,PO.c,[.cell 2 true 6,.tmp 3],false⟩
namespace PM
def r0:=[o 2 (.box 2 0),o 4 (.alloc 4 [.nil,.nil,.nil,(.bool false),.nil,.nil]),o 5 (.a6 (k 0))]
def r1:=[o 6 (.ld true 12 2),o 7 (.call 27 [6]),o 8 (.un .not 7)]
def r2:=[o 9 (.build [.nil,.nil,.nil,(.bool false),.nil,.nil] []),n (.st 6 4 9),o 5 (.a6 (k 2))]
def r3:=[m 10 1,o 11 (.a5 2 9),o 12 (.ld false 1 11),o 13 (.len 12),o 14 (.bin .sub 13 (k 1)),o 15 (.call 10 [10,(k 0),14]),o 16 (.un .not 15)]
def r4:=[o 17 (.build [.nil,.nil,.nil,(.bool false),.nil,.nil] []),n (.st 6 4 17),o 5 (.a6 (k 1))]
def r5:=[o 18 (.ld true 12 2),o 19 (.ld true 12 2),m 20 1,o 21 (.call 163 [19,20]),o 22 (.call 164 [18,21]),n (.st 6 4 22),o 5 (.a6 (k 0))]
def c:=(s (d r0 [0,5]) (s (s (d r1 [6,7]) (i 8 (s (d r2 [1,2,8,9]) .ret) .skip)) (s (s (d r3 [8,10,11,12,13,14,15]) (i 16 (s (d r4 [1,2,16,17]) .ret) .skip)) (s (e r5 [1,2,16,18,19,20,21,22]) .ret))))
end PM
def PM:AFn:=⟨2,PM.c,[.cell 4 true 6,.tmp 5],false⟩
structure y5 (L:Lib):Prop extends iz L,w9 L,cu L where
 PS:L 163=some F.PS
 PT:L 164=some F.PT
 PO:L 165=some F.PO
 PM:L 166=some F.PM
end Go.c6.F

namespace Go.c6.F
open C
namespace QL
def r0:=[o 4 (.a6 (k 0))]
def r1:=[m 5 1,o 6 (.bin .lss 5 (k 1))]
def r2:=[o 4 (.a6 (k 0))]
def r3:=[m 7 0,m 8 1,o 9 (.bin .rem 7 8),m 0 9]
def r4:=[m 10 0,o 11 (.bin .lss 10 (k 0))]
def r5:=[m 12 0,m 13 1,o 14 (.bin .add 12 13),m 0 14]
def r6:=[m 15 0,m 4 15]
def c:=(s (d r0 [4]) (s (s (d r1 [5]) (i 6 (s (d r2 [0,1,6]) .ret) .skip)) (s (d r3 [6,7,8,9]) (s (s (d r4 [10]) (i 11 (d r5 [1,11,12,13,14]) .skip)) (s (d r6 [0,1,11,15]) .ret)))))
end QL
def QL:AFn:=⟨2,QL.c,[.tmp 4],false⟩
namespace QF
def r0:=[o 4 (.a6 (k 0))]
def r1:=[m 5 1,o 6 (.bin .geq 5 (k 0)),m 7 6,g 8 7 true (.a6 1),g 9 7 true (.a6 0),g 10 7 true (.len 9),g 11 7 true (.bin .lss 8 10),
 o 12 (.pick 7 11 (.c (.bool false)))]
def r2:=[m 13 0,m 14 1,o 15 (.a8 none 1 13 14),o 16 (.ld false 1 15),m 4 16]
def r3:=[o 4 (.a6 (k 0))]
def c:=(s (d r0 [4]) (s (s (d r1 [5,6,7,8,9,10,11]) (i 12 (s (d r2 [0,1,12,13,14,15,16]) .ret) .skip)) (s (d r3 [0,1,12]) .ret)))
end QF
def QF:AFn:=⟨2,QF.c,[.tmp 4],false⟩
namespace QM
def r0:=[o 8 (.alloc 8 [z,z,z,z])]
def r1:=[m 10 0,o 11 (.call 34 [10,(k 1099511627776)]),m 0 11]
def r2:=[m 12 1,m 13 0,m 14 2,m 15 1,o 16 (.bin .sub 14 15),o 17 (.bin .add 16 (k 1)),o 18 (.bin .rem 13 17),o 19 (.bin .add 12 18),
 o 20 (.build [z,z,z,z] [(0,1,19)]),o 9 (.alloc 9 [z,z,z,z]),n (.st 4 9 20)]
def r3:=[m 21 0,m 22 2,m 23 1,o 24 (.bin .sub 22 23),o 25 (.bin .add 24 (k 1)),o 26 (.bin .quo 21 25),m 0 26]
def r4:=[o 27 (.a5 9 0),o 28 (.ld false 1 27),o 29 (.bin .sub 28 (k 1)),m 30 3,o 31 (.bin .sub 29 30),m 32 0,o 33 (.bin .rem 32 (k 2)),o 34 (.bin .sub 31 33),
 o 35 (.a5 9 1),n (.st 1 35 34)]
def r5:=[m 36 0,o 37 (.bin .quo 36 (k 2)),m 0 37]
def r6:=[o 38 (.a5 9 1),o 39 (.ld false 1 38),o 40 (.mm true [39,(k 0)]),o 41 (.a5 9 1),n (.st 1 41 40)]
def r7:=[m 42 0,o 43 (.bin .rem 42 (k 3)),o 44 (.bin .add (k 1) 43),m 45 0,o 46 (.bin .quo 45 (k 3)),o 47 (.bin .rem 46 (k 2)),o 48 (.bin .add (k 1) 47),
 o 49 (.a5 9 2),n (.st 1 49 44),o 50 (.a5 9 3),n (.st 1 50 48)]
def r8:=[o 51 (.ld true 4 9),n (.st 4 8 51)]
def c:=(s (p r0) (s (d r1 [10,11]) (s (d r2 [12,13,14,15,16,17,18,19,20]) (s (d r3 [1,2,21,22,23,24,25,26]) (s (d r4 [3,27,28,29,30,31,32,33,34,35]) (s (d r5 [36,37]) (s (d r6 [38,39,40,41]) (s (d r7 [0,42,43,44,45,46,47,48,49,50]) (s (d r8 [9,51]) .ret)))))))))
end QM
def QM:AFn:=⟨4,QM.c,[.cell 8 true 4],false⟩
namespace QI
def r0:=[o 2 (.alloc 2 [z,z,z,z])]
def r1:=[m 3 0,o 4 (.call 36 [3,(k 6),(k 12),(k 2)]),n (.st 4 2 4)]
def c:=(s (p r0) (s (d r1 [0,3,4]) .ret))
end QI
def QI:AFn:=⟨1,QI.c,[.cell 2 true 4],false⟩
namespace QH
def r0:=[o 2 (.alloc 2 [z,z,z,z])]
def r1:=[m 3 0,o 4 (.call 36 [3,(k 6),(k 9),(k 1)]),n (.st 4 2 4)]
def c:=(s (p r0) (s (d r1 [0,3,4]) .ret))
end QH
def QH:AFn:=⟨1,QH.c,[.cell 2 true 4],false⟩
namespace QG
def r0:=[o 6 (.a6 (.c .nil))]
def r1:=[o 7 (.y8 7 1)]
def r2:=[o 8 (.a6 (k 0))]
def r3:=[m 9 8,m 10 2,o 11 (.bin .lss 9 10)]
def r5:=[m 14 7,m 15 1,m 16 8,o 17 (.call 35 [15,16]),m 18 0,o 19 (.bin .add 17 18),m 20 0,o 21 (.bin .mul (k 2) 20),o 22 (.bin .add 21 (k 1)),
 o 23 (.call 34 [19,22]),m 24 0,o 25 (.bin .sub 23 24),o 26 (.b7 26 1 [25]),o 27 (.app 27 1 8 14 26),m 7 27]
def r4:=[m 12 8,o 13 (.bin .add 12 (k 1)),m 8 13]
def r6:=[m 28 7,m 6 28]
def l1:=(s (s (d r3 [9,10]) (i 11 .skip (x 0))) (s (b 1 (d r5 [11,14,15,16,17,18,19,20,21,22,23,24,25,26,27])) (d r4 [12,13])))
def c:=(s (d r0 [6]) (s (p r1) (s (s (p r2) (b 0 (w l1))) (s (d r6 [0,1,2,7,8,11,28]) .ret))))
end QG
def QG:AFn:=⟨3,QG.c,[.tmp 6],false⟩
namespace QK
def r0:=[o 1 (.box 1 0),o 2 (.a6 (k 0))]
def r1:=[o 3 (.a5 1 1),o 4 (.ld false 1 3),o 5 (.conv .u64 4),o 6 (.bin .shl (k 1) 5),m 2 6]
def c:=(s (d r0 [0,2]) (s (d r1 [1,3,4,5,6]) .ret))
end QK
def QK:AFn:=⟨1,QK.c,[.tmp 2],false⟩
structure q6 (L:Lib):Prop extends c7 L where
 QL:L 34=some F.QL
 QF:L 35=some F.QF
 QM:L 36=some F.QM
 QI:L 37=some F.QI
 QH:L 38=some F.QH
 QG:L 40=some F.QG
 QK:L 41=some F.QK
end Go.c6.F

namespace Go.c6.F
open C
structure ja (L:Lib):Prop extends u4 L,q6 L where
end Go.c6.F

namespace Go.c6.F
open C
namespace MA
def r0:=[o 6 (.box 6 2),o 7 (.box 7 3),o 8 (.a6 (k 0))]
def r1:=[o 13 (.ld true 4 6),o 14 (.call 2 [13]),o 15 (.un .not 14),m 16 15,g 17 16 false (.ld true 4 7),g 18 16 false (.call 2 [17]),g 19 16 false (.un .not 18),
 o 20 (.pick 16 (.c (.bool true)) 19)]
def r2:=[o 8 (.a6 (k 2))]
def r3:=[m 21 0,o 22 (.len 21),o 23 (.bin .eql 22 (k 0)),m 24 23,g 25 24 false (.a6 0),g 26 24 false (.len 25),g 27 24 false (.bin .gtr 26 (k 49)),
 o 28 (.pick 24 (.c (.bool true)) 27),m 29 28,g 30 29 false (.a6 1),g 31 29 false (.len 30),g 32 29 false (.bin .gtr 31 (k 8)),
 o 33 (.pick 29 (.c (.bool true)) 32)]
def r4:=[o 8 (.a6 (k 12))]
def r5:=[m 34 0,o 35 (.len 34),o 36 (.a6 (k 0))]
def r6:=[o 37 (.bin .lss 36 35)]
def r7:=[o 38 (.a8 none 1 34 36),o 39 (.ld false 1 38),m 10 39]
def r8:=[o 40 (.ld true 4 7),m 41 10,o 42 (.call 5 [40,41]),o 43 (.un .not 42)]
def r9:=[o 8 (.a6 (k 17))]
def BI:=[o 44 (.bin .add 36 (k 1)),m 36 44]
def BK:=[m 45 1,o 46 (.len 45),o 47 (.a6 (k 0))]
def o0:=[o 48 (.bin .lss 47 46)]
def BX:=[o 49 (.a8 none 1 45 47),o 50 (.ld false 1 49),m 12 50]
def u7:=[o 51 (.ld true 4 7),m 52 12,o 53 (.call 5 [51,52]),o 54 (.un .not 53),m 55 54,g 56 55 false (.ld true 4 7),g 57 55 false (.a6 12),
 g 58 55 false (.un .neg 57),g 59 55 false (.call 5 [56,58]),g 60 55 false (.un .not 59),o 61 (.pick 55 (.c (.bool true)) 60)]
def w3:=[o 8 (.a6 (k 17))]
def x5:=[o 62 (.bin .add 47 (k 1)),m 47 62]
def CX:=[o 8 (.a6 (k 0))]
def l1:=(s (p r6) (s (i 37 .skip (x 0)) (s (b 1 (s (d r7 [37,38,39]) (s (d r8 [10,40,41,42]) (i 43 (s (d r9 [1,7,34,35,36,43]) .ret) .skip)))) (d BI [43,44]))))
def l2:=(s (p o0) (s (i 48 .skip (x 2)) (s (b 3 (s (d BX [48,49,50]) (s (d u7 [12,51,52,53,54,55,56,57,58,59,60]) (i 61 (s (d w3 [7,45,46,47,61]) .ret) .skip)))) (d x5 [61,62]))))
def c:=(s (d r0 [2,3,8]) (s (s (d r1 [6,13,14,15,16,17,18,19]) (i 20 (s (d r2 [0,1,7,20]) .ret) .skip)) (s (s (d r3 [20,21,22,23,24,25,26,27,28,29,30,31,32]) (i 33 (s (d r4 [0,1,7,33]) .ret) .skip)) (s (s (d r5 [0,33]) (b 0 (w l1))) (s (s (d BK [1,34,35,36,37]) (b 2 (w l2))) (s (d CX [7,45,46,47,48]) .ret))))))
end MA
def MA:AFn:=⟨4,MA.c,[.tmp 8],false⟩
namespace L9
def r0:=[o 6 (.a6 (.c .nil))]
def r1:=[m 10 0,o 11 (.len 10),o 12 (.mk 12 2 16 [z,z] 11 11),m 7 12]
def r2:=[m 13 0,o 14 (.len 13),o 15 (.a6 (k 0))]
def r3:=[o 16 (.bin .lss 15 14)]
def r4:=[m 17 15,o 18 (.a8 none 1 13 15),o 19 (.ld false 1 18),m 8 17,m 9 19]
def r5:=[m 20 7,m 21 8,m 22 2,m 23 8,o 24 (.bin .add 22 23),m 25 1,m 26 9,o 27 (.bin .mul 25 26),o 28 (.build [z,z] [(0,1,24),(1,1,27)]),
 o 29 (.a8 none 2 20 21),n (.st 2 29 28)]
def r6:=[o 30 (.bin .add 15 (k 1)),m 15 30]
def r7:=[m 31 7,m 6 31]
def l1:=(s (p r3) (s (i 16 .skip (x 0)) (s (b 1 (s (d r4 [16,17,18,19]) (d r5 [8,9,20,21,22,23,24,25,26,27,28,29]))) (d r6 [30]))))
def c:=(s (d r0 [6]) (s (d r1 [10,11,12]) (s (s (d r2 [0]) (b 0 (w l1))) (s (d r7 [1,2,7,13,14,15,16,31]) .ret))))
end L9
def L9:AFn:=⟨3,L9.c,[.tmp 6],false⟩
namespace L8
def r0:=[o 2 (.a6 (.c .nil))]
def r1:=[o 3 (.y8 3 2)]
def r2:=[m 6 0,o 7 (.len 6),o 8 (.a6 (k 0))]
def r3:=[o 9 (.bin .lss 8 7)]
def r4:=[o 10 (.a8 none 1 6 8),o 11 (.ld false 1 10),m 5 11]
def r5:=[m 12 3,m 13 5,o 14 (.app 14 2 16 12 13),m 3 14]
def r6:=[o 15 (.bin .add 8 (k 1)),m 8 15]
def r7:=[m 16 3,m 2 16]
def l1:=(s (p r3) (s (i 9 .skip (x 0)) (s (b 1 (s (d r4 [9,10,11]) (d r5 [5,12,13,14]))) (d r6 [15]))))
def c:=(s (d r0 [2]) (s (p r1) (s (s (d r2 [0]) (b 0 (w l1))) (s (d r7 [3,6,7,8,9,16]) .ret))))
end L8
def L8:AFn:=⟨1,L8.c,[.tmp 2],false⟩
namespace JO
def r0:=[m 7 0,o 8 (.len 7),o 9 (.a6 (k 0))]
def r1:=[o 10 (.bin .lss 9 8)]
def r2:=[m 11 9,m 6 11]
def r3:=[m 12 6,o 13 (.bin .eql 12 (k 0))]
def r4:=[m 14 0,m 15 6,m 16 2,o 17 (.a8 none 1 14 15),n (.st 1 17 16)]
def r5:=[m 18 0,m 19 6,m 20 1,m 21 6,o 22 (.bin .add 20 21),o 23 (.bin .sub 22 (k 1)),o 24 (.a8 none 1 18 19),n (.st 1 24 23)]
def r6:=[o 25 (.bin .add 9 (k 1)),m 9 25]
def l1:=(s (p r1) (s (i 10 .skip (x 0)) (s (b 1 (s (d r2 [10,11]) (s (d r3 [12]) (i 13 (d r4 [6,13,14,15,16,17]) (d r5 [6,13,18,19,20,21,22,23,24]))))) (d r6 [25]))))
def c:=(s (d r0 [7]) (b 0 (w l1)))
end JO
def JO:AFn:=⟨3,JO.c,[],false⟩
namespace L5
def r0:=[o 6 (.box 6 2),o 7 (.box 7 3),o 8 (.alloc 8 [z,z,z,z,z,z,z,z,z,.nil,.nil,z]),o 9 (.a6 (k 0))]
def r1:=[m 14 0,m 15 1,o 16 (.ld true 4 6),o 17 (.ld true 4 7),o 18 (.call 46 [14,15,16,17]),m 10 18]
def r2:=[m 19 10,o 20 (.bin .neq 19 (k 0))]
def r3:=[o 21 (.build [z,z,z,z,z,z,z,z,z,.nil,.nil,z] []),m 22 10,n (.st 12 8 21),m 9 22]
def r4:=[m 23 0,o 24 (.len 23),o 25 (.bin .sub 24 (k 1)),m 11 25]
def r5:=[m 26 11,m 27 1,o 28 (.len 27),o 29 (.bin .add 26 28),m 12 29]
def r6:=[q 30 [34,13] (.ld true 4 6),q 31 [34,13] (.ld true 4 7),m 32 12,m 33 12,o 34 (.mk 34 1 8 [z] 33 33),m 35 12,
 o 36 (.bin .add 35 (k 1)),o 37 (.build [z,z,z,z,z,z,z,z,z,.nil,.nil,z] [(0,4,30),(4,4,31),(8,1,32),(10,1,34),(11,1,36)]),
 o 13 (.alloc 13 [z,z,z,z,z,z,z,z,z,.nil,.nil,z]),n (.st 12 13 37)]
def r7:=[m 38 0,o 39 (.call 47 [38,(k 1),(k 0)]),m 40 1,m 41 11,o 42 (.bin .add 41 (k 1)),o 43 (.call 47 [40,(k (-1)),42]),o 44 (.b7 44 1 [39,43]),
 o 45 (.call 48 [44]),o 46 (.build [.nil] [(0,1,45)]),o 47 (.b7 47 1 [46]),o 48 (.a5 13 9),n (.st 1 48 47)]
def r8:=[o 49 (.a5 13 10),o 50 (.ld false 1 49),m 51 11,o 52 (.cj 1 50 none (some 51)),o 53 (.g6 49 [52,(k 1),(k 0)])]
def r9:=[o 54 (.a5 13 10),o 55 (.ld false 1 54),m 56 11,o 57 (.cj 1 55 (some 56) none),m 58 11,o 59 (.bin .add 58 (k 1)),o 60 (.a5 13 11),
 o 61 (.ld false 1 60),o 62 (.g6 49 [57,59,61])]
def BI:=[o 63 (.ld true 12 13),n (.st 12 8 63),o 9 (.a6 (k 0))]
def c:=(s (d r0 [2,3,9]) (s (s (d r1 [14,15,16,17,18]) (s (d r2 [19]) (i 20 (s (d r3 [0,1,6,7,10,20,21,22]) .ret) .skip))) (s (d r4 [10,20,23,24,25]) (s (d r5 [26,27,28,29]) (s (e r6 [6,7,12,30,31,32,33,34,35,36,37]) (s (d r7 [0,1,38,39,40,41,42,43,44,45,46,47,48]) (s (d r8 [49,50,51,52,53]) (s (e r9 [11,54,55,56,57,58,59,60,61,62]) (s (d BI [13,63]) .ret)))))))))
end L5
def L5:AFn:=⟨4,L5.c,[.cell 8 true 12,.tmp 9],false⟩
namespace L6
def r0:=[o 6 (.box 6 2),o 7 (.box 7 3),o 8 (.alloc 8 [z,z,z,z,z,z,z,z,z,.nil,.nil,z]),o 9 (.a6 (k 0))]
def r1:=[m 15 0,m 16 1,o 17 (.ld true 4 6),o 18 (.ld true 4 7),o 19 (.call 46 [15,16,17,18]),m 10 19]
def r2:=[m 20 10,o 21 (.bin .neq 20 (k 0))]
def r3:=[o 22 (.build [z,z,z,z,z,z,z,z,z,.nil,.nil,z] []),m 23 10,n (.st 12 8 22),m 9 23]
def r4:=[m 24 0,o 25 (.len 24),o 26 (.bin .sub 25 (k 1)),m 27 1,o 28 (.len 27),o 29 (.mm true [26,28]),m 11 29]
def r5:=[m 30 11,o 31 (.bin .add 30 (k 1)),m 12 31]
def r6:=[q 32 [36,13] (.ld true 4 6),q 33 [36,13] (.ld true 4 7),m 34 11,m 35 11,o 36 (.mk 36 1 8 [z] 35 35),m 37 12,
 o 38 (.bin .add 37 (k 1)),o 39 (.build [z,z,z,z,z,z,z,z,z,.nil,.nil,z] [(0,4,32),(4,4,33),(8,1,34),(10,1,36),(11,1,38)]),
 o 13 (.alloc 13 [z,z,z,z,z,z,z,z,z,.nil,.nil,z]),n (.st 12 13 39)]
def r7:=[o 40 (.a5 7 1),o 41 (.ld false 1 40),o 42 (.bin .shl (k 1) 41),o 43 (.b7 43 1 [42]),m 14 43]
def r8:=[m 44 14,o 45 (.call 47 [44,(k 1),(k 0)]),m 46 1,o 47 (.call 47 [46,(k (-1)),(k 1)]),o 48 (.b7 48 1 [45,47]),o 49 (.call 48 [48]),
 o 50 (.build [.nil] [(0,1,49)]),m 51 0,o 52 (.cj 1 51 none (some (k 1))),m 53 12,o 54 (.call 47 [52,(k 1),53]),m 55 0,
 o 56 (.cj 1 55 (some (k 1)) none),o 57 (.call 47 [56,(k 1),(k 1)]),o 58 (.b7 58 1 [54,57]),o 59 (.call 48 [58]),o 60 (.build [.nil] [(0,1,59)]),
 o 61 (.b7 61 1 [50,60]),o 62 (.a5 13 9),n (.st 1 62 61)]
def r9:=[o 63 (.a5 13 10),o 64 (.ld false 1 63),m 65 12,o 66 (.g6 49 [64,(k 1),65])]
def BI:=[o 67 (.ld true 12 13),n (.st 12 8 67),o 9 (.a6 (k 0))]
def c:=(s (d r0 [2,3,9]) (s (s (d r1 [15,16,17,18,19]) (s (d r2 [20]) (i 21 (s (d r3 [0,1,6,7,10,21,22,23]) .ret) .skip))) (s (d r4 [10,21,24,25,26,27,28,29]) (s (d r5 [30,31]) (s (e r6 [6,11,32,33,34,35,36,37,38,39]) (s (d r7 [7,40,41,42,43]) (s (e r8 [0,1,14,44,45,46,47,48,49,50,51,52,53,54,55,56,57,58,59,60,61,62]) (s (d r9 [12,63,64,65,66]) (s (d BI [13,67]) .ret)))))))))
end L6
def L6:AFn:=⟨4,L6.c,[.cell 8 true 12,.tmp 9],false⟩
namespace L7
def r0:=[o 6 (.box 6 2),o 7 (.box 7 3),o 8 (.alloc 8 [z,z,z,z,z,z,z,z,z,.nil,.nil,z]),o 9 (.a6 (k 0))]
def r1:=[m 17 0,m 18 1,o 19 (.ld true 4 6),o 20 (.ld true 4 7),o 21 (.call 46 [17,18,19,20]),m 10 21]
def r2:=[m 22 10,o 23 (.bin .neq 22 (k 0))]
def r3:=[o 24 (.build [z,z,z,z,z,z,z,z,z,.nil,.nil,z] []),m 25 10,n (.st 12 8 24),m 9 25]
def r4:=[m 26 0,o 27 (.len 26),o 28 (.bin .sub 27 (k 1)),m 29 1,o 30 (.len 29),o 31 (.mm true [28,30]),m 11 31]
def r5:=[m 32 11,o 33 (.bin .add 32 (k 1)),m 12 33]
def r6:=[q 34 [38,13] (.ld true 4 6),q 35 [38,13] (.ld true 4 7),m 36 11,m 37 11,o 38 (.mk 38 1 8 [z] 37 37),m 39 12,
 o 40 (.build [z,z,z,z,z,z,z,z,z,.nil,.nil,z] [(0,4,34),(4,4,35),(8,1,36),(10,1,38),(11,1,39)]),
 o 13 (.alloc 13 [z,z,z,z,z,z,z,z,z,.nil,.nil,z]),n (.st 12 13 40)]
def r7:=[o 41 (.a5 7 1),o 42 (.ld false 1 41),o 43 (.bin .shl (k 1) 42),o 44 (.b7 44 1 [43]),m 14 44]
def r8:=[m 45 11,o 46 (.bin .add 45 (k 1)),o 47 (.a6 (k 0))]
def r9:=[o 48 (.bin .lss 47 46)]
def BI:=[m 49 47,m 15 49]
def BK:=[o 16 (.a6 (.c .nil))]
def o0:=[m 50 15,m 51 0,o 52 (.len 51),o 53 (.bin .lss 50 52)]
def BX:=[m 54 16,m 55 0,m 56 15,m 57 15,o 58 (.bin .add 57 (k 1)),o 59 (.cj 1 55 (some 56) (some 58)),o 60 (.call 47 [59,(k 1),(k 0)]),
 o 61 (.b7 61 1 [54,60]),o 62 (.call 48 [61]),m 16 62]
def u7:=[m 63 15,o 64 (.bin .geq 63 (k 1)),m 65 64,g 66 65 true (.a6 15),g 67 65 true (.a6 1),g 68 65 true (.len 67),g 69 65 true (.bin .leq 66 68),
 o 70 (.pick 65 69 (.c (.bool false)))]
def w3:=[m 71 16,m 72 1,m 73 15,o 74 (.bin .sub 73 (k 1)),m 75 15,o 76 (.cj 1 72 (some 74) (some 75)),m 77 12,o 78 (.call 47 [76,(k (-1)),77]),
 o 79 (.b7 79 1 [71,78]),o 80 (.call 48 [79]),m 16 80]
def x5:=[m 81 15,m 82 11,o 83 (.bin .lss 81 82)]
def CX:=[m 84 16,m 85 14,m 86 15,o 87 (.bin .add 86 (k 1)),o 88 (.call 47 [85,(k 1),87]),o 89 (.b7 89 1 [84,88]),o 90 (.call 48 [89]),m 16 90]
def z9:=[m 91 15,o 92 (.bin .geq 91 (k 1))]
def ax:=[o 93 (.a5 13 10),o 94 (.ld false 1 93),m 95 15,o 96 (.bin .sub 95 (k 1)),m 97 12,m 98 15,o 99 (.bin .add 97 98),o 100 (.a8 none 1 94 96),
 n (.st 1 100 99)]
def az:=[o 101 (.a5 13 9),o 102 (.ld false 1 101),m 103 16,o 104 (.build [.nil] [(0,1,103)]),o 105 (.b7 105 1 [104]),o 106 (.app 106 1 24 102 105),
 o 107 (.a5 13 9),n (.st 1 107 106)]
def dn:=[o 108 (.bin .add 47 (k 1)),m 47 108]
def ff:=[o 109 (.ld true 12 13),n (.st 12 8 109),o 9 (.a6 (k 0))]
def l1:=(s (p r9) (s (i 48 .skip (x 0)) (s (b 1 (s (d BI [48,49]) (s (p BK) (s (s (d o0 [50,51,52]) (i 53 (d BX [53,54,55,56,57,58,59,60,61,62]) .skip)) (s (s (d u7 [53,63,64,65,66,67,68,69]) (i 70 (d w3 [70,71,72,73,74,75,76,77,78,79,80]) .skip)) (s (s (d x5 [70,81,82]) (i 83 (d CX [83,84,85,86,87,88,89,90]) .skip)) (s (s (d z9 [83,91]) (i 92 (d ax [15,92,93,94,95,96,97,98,99,100]) .skip)) (d az [15,16,92,101,102,103,104,105,106,107])))))))) (d dn [108]))))
def c:=(s (d r0 [2,3,9]) (s (s (d r1 [17,18,19,20,21]) (s (d r2 [22]) (i 23 (s (d r3 [0,1,6,7,10,23,24,25]) .ret) .skip))) (s (d r4 [10,23,26,27,28,29,30,31]) (s (d r5 [32,33]) (s (e r6 [6,34,35,36,37,38,39,40]) (s (d r7 [7,41,42,43,44]) (s (s (d r8 [45]) (b 0 (w l1))) (s (d ff [0,1,11,12,13,14,46,47,48,109]) .ret))))))))
end L7
def L7:AFn:=⟨4,L7.c,[.cell 8 true 12,.tmp 9],false⟩
structure l6 (L:Lib):Prop extends ja L where
 MA:L 46=some F.MA
 L9:L 47=some F.L9
 L8:L 48=some F.L8
 JO:L 49=some F.JO
 L5:L 50=some F.L5
 L6:L 51=some F.L6
 L7:L 52=some F.L7
end Go.c6.F

namespace Go.c6.F
open C
namespace MS
def r0:=[o 5 (.box 5 2),o 6 (.a6 (k 0))]
def r1:=[o 13 (.ld true 4 5),o 14 (.call 2 [13]),o 15 (.un .not 14)]
def r2:=[o 6 (.a6 (k 2))]
def r3:=[m 16 0,o 17 (.len 16),o 18 (.bin .gtr 17 (k 8)),m 19 18,g 20 19 false (.a6 1),g 21 19 false (.len 20),g 22 19 false (.a6 0),g 23 19 false (.len 22),
 g 24 19 false (.bin .add 23 (k 1)),g 25 19 false (.bin .neq 21 24),o 26 (.pick 19 (.c (.bool true)) 25)]
def r4:=[o 6 (.a6 (k 12))]
def r5:=[m 27 1,o 28 (.len 27),o 29 (.a6 (k 0))]
def r6:=[o 30 (.bin .lss 29 28)]
def r7:=[o 31 (.a8 none 1 27 29),o 32 (.ld false 1 31),m 8 32]
def r8:=[o 33 (.ld true 4 5),m 34 8,o 35 (.call 5 [33,34]),o 36 (.un .not 35)]
def r9:=[o 6 (.a6 (k 17))]
def BI:=[o 37 (.bin .add 29 (k 1)),m 29 37]
def BK:=[m 38 0,o 39 (.len 38),o 40 (.a6 (k 0))]
def o0:=[o 41 (.bin .lss 40 39)]
def BX:=[o 42 (.a8 none 1 38 40),o 43 (.ld false 1 42),m 10 43]
def u7:=[o 44 (.ld true 4 5),m 45 10,o 46 (.call 5 [44,45]),o 47 (.un .not 46),m 48 47,g 49 48 false (.ld true 4 5),g 50 48 false (.a6 10),
 g 51 48 false (.un .neg 50),g 52 48 false (.call 5 [49,51]),g 53 48 false (.un .not 52),o 54 (.pick 48 (.c (.bool true)) 53)]
def w3:=[o 6 (.a6 (k 17))]
def x5:=[o 55 (.bin .add 40 (k 1)),m 40 55]
def CX:=[m 56 0,o 57 (.len 56),o 58 (.a6 (k 0))]
def z9:=[o 59 (.bin .lss 58 57)]
def ax:=[o 60 (.a8 none 1 56 58),o 61 (.ld false 1 60),m 12 61]
def az:=[m 62 12,m 63 12,o 64 (.un .neg 63),o 65 (.mm true [62,64]),o 66 (.a5 5 1),o 67 (.ld false 1 66),o 68 (.bin .shl (k 1) 67),o 69 (.bin .geq 65 68)]
def dn:=[o 6 (.a6 (k 14))]
def ff:=[o 70 (.bin .add 58 (k 1)),m 58 70]
def fw:=[o 6 (.a6 (k 0))]
def l1:=(s (p r6) (s (i 30 .skip (x 0)) (s (b 1 (s (d r7 [30,31,32]) (s (d r8 [8,33,34,35]) (i 36 (s (d r9 [0,5,27,28,29,36]) .ret) .skip)))) (d BI [36,37]))))
def l2:=(s (p o0) (s (i 41 .skip (x 2)) (s (b 3 (s (d BX [41,42,43]) (s (d u7 [10,44,45,46,47,48,49,50,51,52,53]) (i 54 (s (d w3 [0,5,38,39,40,54]) .ret) .skip)))) (d x5 [54,55]))))
def l3:=(s (p z9) (s (i 59 .skip (x 4)) (s (b 5 (s (d ax [59,60,61]) (s (d az [12,62,63,64,65,66,67,68]) (i 69 (s (d dn [5,56,57,58,69]) .ret) .skip)))) (d ff [69,70]))))
def c:=(s (d r0 [2,6]) (s (s (d r1 [13,14]) (i 15 (s (d r2 [0,1,5,15]) .ret) .skip)) (s (s (d r3 [15,16,17,18,19,20,21,22,23,24,25]) (i 26 (s (d r4 [0,1,5,26]) .ret) .skip)) (s (s (d r5 [1,26]) (b 0 (w l1))) (s (s (d BK [27,28,29,30]) (b 2 (w l2))) (s (s (d CX [0,38,39,40,41]) (b 4 (w l3))) (s (d fw [5,56,57,58,59]) .ret)))))))
end MS
def MS:AFn:=⟨3,MS.c,[.tmp 6],false⟩
namespace MR
def r0:=[o 6 (.box 6 2),o 7 (.box 7 3),o 8 (.alloc 8 [z,z,z,z,z,z,z,z,z,.nil,.nil,z]),o 9 (.a6 (k 0))]
def r1:=[o 19 (.ld true 4 6),o 20 (.call 2 [19]),o 21 (.un .not 20)]
def r2:=[o 22 (.build [z,z,z,z,z,z,z,z,z,.nil,.nil,z] []),n (.st 12 8 22),o 9 (.a6 (k 2))]
def r3:=[m 23 0,m 24 1,o 25 (.ld true 4 7),o 26 (.call 345 [23,24,25]),m 10 26]
def r4:=[m 27 10,o 28 (.bin .neq 27 (k 0))]
def r5:=[o 29 (.build [z,z,z,z,z,z,z,z,z,.nil,.nil,z] []),m 30 10,n (.st 12 8 29),m 9 30]
def r6:=[m 31 0,o 32 (.len 31),m 11 32]
def r7:=[o 33 (.a5 7 1),o 34 (.ld false 1 33),o 35 (.bin .shl (k 1) 34),m 12 35]
def r8:=[q 36 [40,13] (.ld true 4 6),q 37 [40,13] (.ld true 4 7),m 38 11,m 39 11,o 40 (.mk 40 1 8 [z] 39 39),m 41 11,
 o 42 (.bin .mul (k 3) 41),o 43 (.bin .add 42 (k 1)),
 o 44 (.build [z,z,z,z,z,z,z,z,z,.nil,.nil,z] [(0,4,36),(4,4,37),(8,1,38),(10,1,40),(11,1,43)]),
 o 13 (.alloc 13 [z,z,z,z,z,z,z,z,z,.nil,.nil,z]),n (.st 12 13 44)]
def r9:=[m 45 11,o 46 (.bin .add 45 (k 1)),o 47 (.mk 47 1 8 [z] 46 46),m 14 47]
def BI:=[m 48 11,m 15 48]
def BK:=[m 49 15,o 50 (.bin .geq 49 (k 1))]
def BX:=[m 53 14,m 54 15,o 55 (.bin .sub 54 (k 1)),m 56 11,o 57 (.bin .add (k 1) 56),m 58 11,o 59 (.bin .add 57 58),m 60 15,o 61 (.bin .sub 59 60),
 o 62 (.a8 none 1 53 55),n (.st 1 62 61)]
def u7:=[o 63 (.a5 13 9),q 64 [79,81] (.ld false 1 63),m 65 14,m 66 15,o 67 (.a8 none 1 65 66),o 68 (.ld false 1 67),m 69 12,
 o 70 (.build [z,z] [(0,1,68),(1,1,69)]),m 71 15,m 72 0,m 73 15,o 74 (.bin .sub 73 (k 1)),o 75 (.a8 none 1 72 74),o 76 (.ld false 1 75),
 o 77 (.un .neg 76),o 78 (.build [z,z] [(0,1,71),(1,1,77)]),o 79 (.b7 79 2 [70,78]),o 80 (.build [.nil] [(0,1,79)]),o 81 (.b7 81 1 [80]),
 o 82 (.app 82 1 24 64 81),o 83 (.a5 13 9),n (.st 1 83 82)]
def o0:=[m 51 15,o 52 (.bin .sub 51 (k 1)),m 15 52]
def w3:=[m 84 11,o 85 (.bin .add 84 (k 1)),o 86 (.mk 86 1 8 [z] 85 85),m 16 86]
def x5:=[m 87 16,m 88 14,o 89 (.a8 none 1 88 (k 0)),o 90 (.ld false 1 89),o 91 (.a8 none 1 87 (k 0)),n (.st 1 91 90)]
def CX:=[m 92 14,o 93 (.a8 none 1 92 (k 0)),q 94 [17] (.ld false 1 93),m 95 1,o 96 (.a8 none 1 95 (k 0)),q 97 [17] (.ld false 1 96),
 o 98 (.build [z,z] [(0,1,94),(1,1,97)]),o 99 (.b7 99 2 [98]),o 100 (.build [.nil] [(0,1,99)]),o 17 (.alloc 17 [.nil]),n (.st 1 17 100)]
def z9:=[o 18 (.a6 (k 1))]
def ax:=[m 101 18,m 102 11,o 103 (.bin .leq 101 102)]
def dn:=[m 106 16,m 107 18,m 108 11,o 109 (.bin .mul (k 2) 108),m 110 18,o 111 (.bin .add 109 110),o 112 (.a8 none 1 106 107),n (.st 1 112 111)]
def ff:=[o 113 (.a5 13 9),q 114 [129,131] (.ld false 1 113),m 115 14,m 116 18,o 117 (.bin .sub 116 (k 1)),o 118 (.a8 none 1 115 117),
 o 119 (.ld false 1 118),m 120 0,m 121 18,o 122 (.bin .sub 121 (k 1)),o 123 (.a8 none 1 120 122),o 124 (.ld false 1 123),
 o 125 (.build [z,z] [(0,1,119),(1,1,124)]),m 126 18,m 127 12,o 128 (.build [z,z] [(0,1,126),(1,1,127)]),o 129 (.b7 129 2 [125,128]),
 o 130 (.build [.nil] [(0,1,129)]),o 131 (.b7 131 1 [130]),o 132 (.app 132 1 24 114 131),o 133 (.a5 13 9),n (.st 1 133 132)]
def fw:=[o 134 (.a5 17 0),q 135 [145] (.ld false 1 134),m 136 16,m 137 18,o 138 (.a8 none 1 136 137),o 139 (.ld false 1 138),m 140 1,m 141 18,
 o 142 (.a8 none 1 140 141),o 143 (.ld false 1 142),o 144 (.build [z,z] [(0,1,139),(1,1,143)]),o 145 (.b7 145 2 [144]),
 o 146 (.app 146 2 16 135 145),o 147 (.a5 17 0),n (.st 1 147 146)]
def H1:=[o 148 (.a5 13 10),o 149 (.ld false 1 148),m 150 18,o 151 (.bin .sub 150 (k 1)),m 152 16,m 153 18,o 154 (.bin .sub 153 (k 1)),
 o 155 (.a8 none 1 152 154),o 156 (.ld false 1 155),o 157 (.a8 none 1 149 151),n (.st 1 157 156)]
def az:=[m 104 18,o 105 (.bin .add 104 (k 1)),m 18 105]
def JU:=[o 158 (.a5 13 9),o 159 (.ld false 1 158),o 160 (.ld true 1 17),o 161 (.b7 161 1 [160]),o 162 (.app 162 1 24 159 161),o 163 (.a5 13 9),
 n (.st 1 163 162)]
def SI:=[o 164 (.ld true 12 13),n (.st 12 8 164),o 9 (.a6 (k 0))]
def l1:=(s (s (d BK [49]) (i 50 .skip (x 0))) (s (b 1 (s (d BX [50,53,54,55,56,57,58,59,60,61,62]) (e u7 [63,64,65,66,67,68,69,70,71,72,73,74,75,76,77,78,79,80,81,82,83]))) (d o0 [51,52])))
def l2:=(s (s (d ax [101,102]) (i 103 .skip (x 2))) (s (b 3 (s (d dn [103,106,107,108,109,110,111,112]) (s (e ff [113,114,115,116,117,118,119,120,121,122,123,124,125,126,127,128,129,130,131,132,133]) (s (e fw [134,135,136,137,138,139,140,141,142,143,144,145,146,147]) (e H1 [148,149,150,151,152,153,154,155,156,157]))))) (d az [104,105])))
def c:=(s (d r0 [2,3,9]) (s (s (d r1 [19,20]) (i 21 (s (d r2 [0,1,6,7,21,22]) .ret) .skip)) (s (s (d r3 [21,23,24,25,26]) (s (d r4 [27]) (i 28 (s (d r5 [0,1,6,7,10,28,29,30]) .ret) .skip))) (s (d r6 [10,28,31,32]) (s (d r7 [33,34,35]) (s (e r8 [6,7,36,37,38,39,40,41,42,43,44]) (s (d r9 [45,46,47]) (s (s (d BI [48]) (b 0 (w l1))) (s (d w3 [15,50,84,85,86]) (s (d x5 [87,88,89,90,91]) (s (e CX [92,93,94,95,96,97,98,99,100]) (s (s (p z9) (b 2 (w l2))) (s (d JU [0,1,11,12,14,16,17,18,103,158,159,160,161,162,163]) (s (d SI [13,164]) .ret))))))))))))))
end MR
def MR:AFn:=⟨4,MR.c,[.cell 8 true 12,.tmp 9],false⟩
namespace QJ
def r0:=[o 2 (.box 2 0),o 4 (.a6 (.c .nil))]
def r1:=[o 8 (.a5 2 1),o 9 (.ld false 1 8),o 10 (.conv .u64 9),o 11 (.bin .shl (k 1) 10),m 5 11]
def r2:=[m 12 1,o 13 (.call 35 [12,(k 0)]),o 14 (.call 34 [13,(k 3)])]
def r3:=[o 16 (.bin .eql 14 (k 0)),m 15 16]
def r4:=[o 4 (.a6 (.c .nil))]
def r5:=[o 18 (.bin .eql 14 (k 1)),m 17 18]
def r6:=[m 19 5,o 20 (.bin .mul 19 (k 3)),o 21 (.bin .quo 20 (k 4)),m 22 1,o 23 (.call 35 [22,(k 1)]),o 24 (.b7 24 1 [23]),o 25 (.call 40 [21,24,(k 1)]),
 m 4 25]
def r7:=[m 26 5,o 27 (.bin .quo 26 (k 2)),m 28 1,o 29 (.call 35 [28,(k 1)]),o 30 (.b7 30 1 [29]),o 31 (.call 40 [27,30,(k 1)]),o 32 (.a8 none 1 31 (k 0)),
 o 33 (.ld false 1 32),m 6 33]
def r8:=[m 34 5,m 35 6,o 36 (.bin .add 34 35),o 37 (.bin .quo 36 (k 2)),m 38 1,o 39 (.call 35 [38,(k 2)]),o 40 (.b7 40 1 [39]),
 o 41 (.call 40 [37,40,(k 1)]),o 42 (.a8 none 1 41 (k 0)),o 43 (.ld false 1 42),m 7 43]
def r9:=[m 44 7,m 45 6,o 46 (.b7 46 1 [44,45]),m 4 46]
def c:=(s (d r0 [0,4]) (s (d r1 [2,8,9,10,11]) (s (s (d r2 [12,13]) (b 0 (s (d r3 [16]) (i 15 (s (d r4 [1,5,14,15]) .ret) (s (d r5 [14,15,18]) (i 17 (s (d r6 [1,5,17,19,20,21,22,23,24,25]) .ret) .skip)))))) (s (d r7 [17,26,27,28,29,30,31,32,33]) (s (d r8 [1,5,34,35,36,37,38,39,40,41,42,43]) (s (d r9 [6,7,44,45,46]) .ret))))))
end QJ
def QJ:AFn:=⟨2,QJ.c,[.tmp 4],false⟩
namespace IQ
def r0:=[o 1 (.box 1 0),o 2 (.alloc 2 [z,z,z,z,z,z,z,z,z,.nil,.nil,z]),o 3 (.a6 (.c (.bool false)))]
def r1:=[o 11 (.a5 1 1),q 12 [4,5] (.ld false 1 11),q 13 [4,5] (.call 37 [12]),o 14 (.a5 1 2),q 15 [4,5] (.ld false 1 14),
 q 16 [4,5] (.call 38 [15]),o 4 (.alloc 4 [z,z,z,z]),o 5 (.alloc 5 [z,z,z,z]),n (.st 4 4 13),n (.st 4 5 16)]
def r2:=[o 17 (.a5 5 0),o 18 (.ld false 1 17),o 19 (.bin .sub 18 (k 1)),o 20 (.conv .u64 19),o 21 (.bin .shl (k 1) 20),o 22 (.bin .sub 21 (k 1)),
 o 23 (.a5 1 3),o 24 (.ld false 1 23),o 25 (.a5 1 3),o 26 (.ld false 1 25),o 27 (.len 26),o 28 (.call 34 [27,(k 3)]),o 29 (.bin .add (k 1) 28),
 o 30 (.call 40 [22,24,29]),m 6 30]
def r3:=[o 31 (.ld true 4 5),o 32 (.a5 1 4),o 33 (.ld false 1 32),o 34 (.call 347 [31,33]),m 7 34]
def r4:=[o 8 (.alloc 8 [z,z,z,z,z,z,z,z,z,.nil,.nil,z])]
def r5:=[o 9 (.a6 (k 0))]
def r6:=[o 35 (.a5 1 0),o 36 (.ld false 1 35),o 37 (.call 34 [36,(k 4)])]
def r9:=[o 69 (.bin .eql 37 (k 0)),m 68 69]
def BI:=[m 71 6,m 72 7,o 73 (.ld true 4 4),o 74 (.ld true 4 5),o 75 (.call 50 [71,72,73,74]),m 70 75,o 76 (.ext 70 0),o 77 (.ext 70 1),n (.st 12 8 76),
 m 9 77]
def BK:=[o 79 (.bin .eql 37 (k 1)),m 78 79]
def o0:=[m 81 6,m 82 7,o 83 (.ld true 4 4),o 84 (.ld true 4 5),o 85 (.call 51 [81,82,83,84]),m 80 85,o 86 (.ext 80 0),o 87 (.ext 80 1),n (.st 12 8 86),
 m 9 87]
def BX:=[o 89 (.bin .eql 37 (k 2)),m 88 89]
def u7:=[m 91 6,m 92 7,o 93 (.ld true 4 4),o 94 (.ld true 4 5),o 95 (.call 52 [91,92,93,94]),m 90 95,o 96 (.ext 90 0),o 97 (.ext 90 1),n (.st 12 8 96),
 m 9 97]
def r7:=[o 38 (.ld true 4 5),o 39 (.call 41 [38]),o 40 (.bin .mul 39 (k 3)),o 41 (.bin .quo 40 (k 4)),o 42 (.a5 1 4),o 43 (.ld false 1 42),o 44 (.a5 1 4),
 o 45 (.ld false 1 44),o 46 (.len 45),o 47 (.call 34 [46,(k 3)]),o 48 (.call 40 [41,43,47]),m 10 48]
def r8:=[m 50 10,o 51 (.a5 5 0),o 52 (.ld false 1 51),o 53 (.bin .sub 52 (k 1)),o 54 (.conv .u64 53),o 55 (.bin .shl (k 1) 54),o 56 (.bin .sub 55 (k 1)),
 o 57 (.a5 1 3),o 58 (.ld false 1 57),m 59 10,o 60 (.len 59),o 61 (.bin .add 60 (k 1)),o 62 (.call 40 [56,58,61]),o 63 (.ld true 4 4),
 o 64 (.ld true 4 5),o 65 (.call 346 [50,62,63,64]),m 49 65,o 66 (.ext 49 0),o 67 (.ext 49 1),n (.st 12 8 66),m 9 67]
def w3:=[o 98 (.ld true 12 8),m 99 9,o 100 (.bin .eql 99 (k 0)),n (.st 12 2 98),m 3 100]
def c:=(s (d r0 [0,3]) (s (e r1 [11,12,13,14,15,16]) (s (e r2 [17,18,19,20,21,22,23,24,25,26,27,28,29,30]) (s (d r3 [31,32,33,34]) (s (p r4) (s (d r5 [9]) (s (s (d r6 [35,36]) (b 0 (s (d r9 [69]) (i 68 (d BI [1,4,5,6,7,37,68,70,71,72,73,74,75,76,77]) (s (d BK [68,79]) (i 78 (d o0 [1,4,5,6,7,37,78,80,81,82,83,84,85,86,87]) (s (d BX [37,78,89]) (i 88 (d u7 [1,4,5,6,7,88,90,91,92,93,94,95,96,97]) (s (e r7 [6,7,38,39,40,41,42,43,44,45,46,47,48,88]) (e r8 [1,4,5,10,49,50,51,52,53,54,55,56,57,58,59,60,61,62,63,64,65,66,67])))))))))) (s (d w3 [8,9,98,99,100]) .ret))))))))
end IQ
def IQ:AFn:=⟨1,IQ.c,[.cell 2 true 12,.tmp 3],false⟩
structure z8 (L:Lib):Prop extends l6 L where
 MS:L 345=some F.MS
 MR:L 346=some F.MR
 QJ:L 347=some F.QJ
 IQ:L 348=some F.IQ
end Go.c6.F

namespace Go.c6.F
open C
namespace MU
def r0:=[o 0 (.a6 (.c (.bool false)))]
def r1:=[o 7 (.call 124 [(k 1)]),o 8 (.call 125 [(k 1),(k 2)]),o 1 (.alloc 1 [(.bool false),.nil,.nil]),o 2 (.alloc 2 [(.bool false),.nil,.nil]),n (.st 3 1 7),
 n (.st 3 2 8)]
def r2:=[q 10 [15,3] (.ld true 3 1),o 11 (.b7 11 3 [10]),q 12 [11,3] (.ld true 3 1),q 13 [11,3] (.ld true 3 2),
 q 14 [11,3] (.call 152 [13]),o 15 (.b7 15 3 [12,14]),o 16 (.build [.nil,.nil] [(0,1,11),(1,1,15)]),
 q 17 [3] (.call 207 [16]),m 9 17,o 18 (.ext 9 0),o 19 (.ext 9 1),o 3 (.alloc 3 [.nil,.nil,.nil,(.bool false),.nil,.nil]),n (.st 6 3 18),
 m 4 19]
def r3:=[o 21 (.ld true 6 3),o 22 (.call 307 [21]),m 20 22,o 23 (.ext 20 0),o 24 (.ext 20 1),o 5 (.alloc 5 [(.bool false),.nil,.nil]),n (.st 3 5 23),m 6 24]
def r4:=[m 25 4,o 26 (.bin .eql 25 (k 0)),m 27 26,g 28 27 true (.a6 6),g 29 27 true (.bin .eql 28 (k 0)),o 30 (.pick 27 29 (.c (.bool false))),m 31 30,
 g 32 31 true (.ld true 3 5),g 33 31 true (.call 124 [(k 2)]),g 34 31 true (.call 127 [32,33]),g 35 31 true (.bin .eql 34 (k 0)),
 o 36 (.pick 31 35 (.c (.bool false))),m 0 36]
def c:=(s (d r0 [0]) (s (d r1 [7,8]) (s (e r2 [1,2,9,10,11,12,13,14,15,16,17,18,19]) (s (d r3 [3,20,21,22,23,24]) (s (e r4 [4,5,6,25,26,27,28,29,30,31,32,33,34,35,36]) .ret)))))
end MU
def MU:AFn:=⟨0,MU.c,[.tmp 0],false⟩
structure fo (L:Lib):Prop extends m4 L where
 MU:L 318=some F.MU
end Go.c6.F

namespace Go.c6.F
open C
namespace OC
def r0:=[o 1 (.box 1 0),o 2 (.a6 (.c (.bool false)))]
def r1:=[o 3 (.ld true 12 1),o 4 (.call 21 [3]),m 5 4,g 6 5 true (.a5 1 8),g 7 5 true (.ld false 1 6),g 8 5 true (.bin .leq 7 (k 16)),
 o 9 (.pick 5 8 (.c (.bool false))),m 2 9]
def c:=(s (d r0 [0,2]) (s (d r1 [1,3,4,5,6,7,8,9]) .ret))
end OC
def OC:AFn:=⟨1,OC.c,[.tmp 2],false⟩
namespace N6
def r0:=[o 2 (.box 2 0),o 4 (.alloc 4 [(.bool false),.nil,.nil])]
def r1:=[o 9 (.a5 2 4),o 10 (.a5 9 1),o 11 (.ld false 1 10),o 12 (.bin .shl (k 1) 11),m 5 12]
def r2:=[o 6 (.a6 (.c (.bool true)))]
def r3:=[o 13 (.a5 2 9),o 14 (.ld false 1 13),m 15 1,o 16 (.a8 none 1 14 15),o 17 (.a5 16 0),o 18 (.ld false 1 17),o 19 (.len 18),o 20 (.a6 (k 0))]
def r4:=[o 21 (.bin .lss 20 19)]
def r5:=[o 22 (.a8 none 2 18 20),o 23 (.ld true 2 22),o 8 (.alloc 8 [z,z]),n (.st 2 8 23)]
def r6:=[o 24 (.a5 8 1),o 25 (.ld false 1 24),m 26 5,o 27 (.bin .rem 25 26),o 28 (.bin .neq 27 (k 0))]
def r7:=[o 6 (.a6 (.c (.bool false)))]
def r8:=[o 29 (.bin .add 20 (k 1)),m 20 29]
def r9:=[m 31 6,m 30 31]
def BI:=[o 32 (.call 96 [(k 0)]),n (.st 3 4 32)]
def BK:=[o 34 (.a5 2 0),o 35 (.a5 34 2),o 36 (.ld false 1 35),o 37 (.bin .eql 36 (k 2)),m 33 37]
def o0:=[o 38 (.call 151 [(k 1),(k 2)]),n (.st 3 4 38)]
def BX:=[o 39 (.call 96 [(k 1)]),n (.st 3 4 39)]
def l1:=(s (p r4) (s (i 21 .skip (x 0)) (s (b 1 (s (d r5 [21,22,23]) (s (d r6 [8,24,25,26,27]) (i 28 (d r7 [28]) .skip)))) (d r8 [28,29]))))
def c:=(s (d r0 [0]) (s (d r1 [9,10,11,12]) (s (p r2) (s (s (d r3 [1,13,14,15,16,17]) (b 0 (w l1))) (s (b 2 (s (d r9 [5,6,18,19,20,21,31]) (i 30 (s (d BI [2,30,32]) .ret) (s (d BK [2,30,34,35,36,37]) (i 33 (s (d o0 [33,38]) .ret) .skip))))) (s (d BX [33,39]) .ret))))))
end N6
def N6:AFn:=⟨2,N6.c,[.cell 4 true 3],false⟩
namespace H0
def r0:=[o 2 (.box 2 0),o 4 (.a6 (.c .nil))]
def r1:=[o 14 (.a5 2 8),o 15 (.ld false 1 14),o 16 (.bin .add 15 (k 1)),m 5 16]
def r2:=[m 17 5,o 18 (.a5 2 9),o 19 (.ld false 1 18),o 20 (.len 19),o 21 (.bin .add 17 20),o 22 (.mk 22 3 56 [(.bool false),.nil,.nil] 21 21),m 6 22]
def r3:=[m 23 5,o 24 (.a6 (k 0))]
def r4:=[o 25 (.bin .lss 24 23)]
def r5:=[m 26 24,m 7 26]
def r6:=[m 27 6,m 28 7,o 29 (.call 96 [(k 0)]),o 30 (.a8 none 3 27 28),n (.st 3 30 29)]
def r7:=[o 31 (.bin .add 24 (k 1)),m 24 31]
def r8:=[m 32 1,m 33 5,o 34 (.bin .lss 32 33)]
def r9:=[m 35 6,m 36 1,o 37 (.call 96 [(k 1)]),o 38 (.a8 none 3 35 36),n (.st 3 38 37)]
def BI:=[o 39 (.a5 2 4),o 40 (.a5 39 1),o 41 (.ld false 1 40),o 42 (.bin .shl (k 1) 41),o 43 (.call 151 [(k 1),42]),o 8 (.alloc 8 [(.bool false),.nil,.nil]),
 n (.st 3 8 43)]
def BK:=[o 44 (.a5 2 9),o 45 (.ld false 1 44),o 46 (.len 45),o 47 (.a6 (k 0))]
def o0:=[o 48 (.bin .lss 47 46)]
def BX:=[m 49 47,o 50 (.a8 none 1 45 47),o 51 (.ld true 1 50),o 10 (.alloc 10 [.nil]),m 9 49,n (.st 1 10 51)]
def u7:=[o 52 (.call 96 [(k 0)]),o 11 (.alloc 11 [(.bool false),.nil,.nil]),n (.st 3 11 52)]
def w3:=[o 53 (.a5 10 0),o 54 (.ld false 1 53),o 55 (.len 54),o 56 (.a6 (k 0))]
def x5:=[o 57 (.bin .lss 56 55)]
def CX:=[o 58 (.a8 none 2 54 56),o 59 (.ld true 2 58),o 13 (.alloc 13 [z,z]),n (.st 2 13 59)]
def z9:=[m 60 6,o 61 (.a5 13 0),o 62 (.ld false 1 61),o 63 (.a8 none 3 60 62),o 64 (.ld true 3 63),o 65 (.call 97 [64]),o 66 (.bin .neq 65 (k 0))]
def ax:=[o 67 (.ld true 3 11),m 68 6,o 69 (.a5 13 0),o 70 (.ld false 1 69),o 71 (.a8 none 3 68 70),o 72 (.ld true 3 71),o 73 (.a5 13 1),
 o 74 (.ld false 1 73),o 75 (.call 96 [74]),o 76 (.call 99 [72,75]),o 77 (.call 98 [67,76]),n (.st 3 11 77)]
def az:=[o 78 (.bin .add 56 (k 1)),m 56 78]
def dn:=[m 79 6,m 80 5,m 81 9,o 82 (.bin .add 80 81),o 83 (.ld true 3 11),o 84 (.ld true 3 8),o 85 (.call 99 [83,84]),o 86 (.a8 none 3 79 82),n (.st 3 86 85)]
def ff:=[m 87 5,m 88 9,o 89 (.bin .add 87 88),m 90 1,o 91 (.bin .eql 89 90)]
def fw:=[m 92 6,m 93 1,o 94 (.call 96 [(k 1)]),o 95 (.a8 none 3 92 93),n (.st 3 95 94)]
def H1:=[o 96 (.bin .add 47 (k 1)),m 47 96]
def JU:=[m 97 6,m 4 97]
def l1:=(s (p r4) (s (i 25 .skip (x 0)) (s (b 1 (s (d r5 [25,26]) (d r6 [7,27,28,29,30]))) (d r7 [31]))))
def l3:=(s (p x5) (s (i 57 .skip (x 4)) (s (b 5 (s (d CX [57,58,59]) (s (d z9 [60,61,62,63,64,65]) (i 66 (e ax [13,66,67,68,69,70,71,72,73,74,75,76,77]) .skip)))) (d az [13,66,78]))))
def l2:=(s (p o0) (s (i 48 .skip (x 2)) (s (b 3 (s (d BX [48,49,50,51]) (s (d u7 [52]) (s (s (d w3 [10,53]) (b 4 (w l3))) (s (d dn [11,54,55,56,57,79,80,81,82,83,84,85,86]) (s (d ff [9,87,88,89,90]) (i 91 (d fw [91,92,93,94,95]) .skip))))))) (d H1 [91,96]))))
def c:=(s (d r0 [0,4]) (s (d r1 [14,15,16]) (s (d r2 [17,18,19,20,21,22]) (s (s (p r3) (b 0 (w l1))) (s (s (d r8 [23,24,25,32,33]) (i 34 (d r9 [34,35,36,37,38]) .skip)) (s (d BI [34,39,40,41,42,43]) (s (s (d BK [2,44]) (b 2 (w l2))) (s (d JU [1,5,6,8,45,46,47,48,97]) .ret))))))))
end H0
def H0:AFn:=⟨2,H0.c,[.tmp 4],false⟩
namespace N7
def r0:=[o 4 (.a6 (.c .nil))]
def r1:=[m 7 0,o 8 (.len 7),o 9 (.mk 9 3 56 [(.bool false),.nil,.nil] 8 8),m 5 9]
def r2:=[m 10 0,o 11 (.len 10),o 12 (.a6 (k 0))]
def r3:=[o 13 (.bin .lss 12 11)]
def r4:=[m 14 12,m 6 14]
def r5:=[m 15 5,m 16 6,m 17 0,m 18 6,o 19 (.a8 none 1 17 18),o 20 (.ld false 1 19),m 21 1,o 22 (.a8 none 3 20 21),o 23 (.ld true 3 22),
 o 24 (.a8 none 3 15 16),n (.st 3 24 23)]
def r6:=[o 25 (.bin .add 12 (k 1)),m 12 25]
def r7:=[m 26 5,m 4 26]
def l1:=(s (p r3) (s (i 13 .skip (x 0)) (s (b 1 (s (d r4 [13,14]) (d r5 [6,15,16,17,18,19,20,21,22,23,24]))) (d r6 [25]))))
def c:=(s (d r0 [4]) (s (d r1 [7,8,9]) (s (s (d r2 [10]) (b 0 (w l1))) (s (d r7 [0,1,5,11,12,13,26]) .ret))))
end N7
def N7:AFn:=⟨2,N7.c,[.tmp 4],false⟩
namespace NV
def r0:=[o 2 (.box 2 0),o 4 (.alloc 4 [(.bool false),.nil,.nil])]
def r1:=[o 5 (.a5 2 0),o 6 (.ld true 3 5),m 7 1,o 8 (.call 96 [7]),o 9 (.call 99 [6,8]),o 10 (.a5 2 3),o 11 (.ld true 3 10),o 12 (.call 98 [9,11]),
 n (.st 3 4 12)]
def c:=(s (d r0 [0]) (s (e r1 [1,2,5,6,7,8,9,10,11,12]) .ret))
end NV
def NV:AFn:=⟨2,NV.c,[.cell 4 true 3],false⟩
namespace NX
def r0:=[o 6 (.alloc 354006 [(.bool false),.nil,.nil,(.bool false),.nil,.nil])]
def r1:=[o 18 (.ld false 1 1),m 19 0,o 20 (.call 352 [18,19]),m 7 20]
def r2:=[m 21 7,o 22 (.b7 354022 1 [21]),o 23 (.call 295 [22]),o 8 (.alloc 354008 [(.bool false),.nil,.nil]),n (.st 3 8 23)]
def r3:=[m 24 7,o 25 (.ld true 3 8),o 26 (.call 296 [24,25]),m 7 26]
def r4:=[o 27 (.a5 2 5),q 28 [354009] (.ld true 3 27),q 29 [354009] (.ld true 3 3),q 30 [354009] (.ld true 3 8),
 q 31 [354009] (.call 99 [29,30]),q 32 [354009] (.call 99 [28,31]),o 9 (.alloc 354009 [(.bool false),.nil,.nil]),n (.st 3 9 32)]
def r5:=[o 33 (.call 96 [(k 0)]),o 34 (.call 96 [(k 0)]),o 35 (.build [(.bool false),.nil,.nil,(.bool false),.nil,.nil] [(0,3,33),(3,3,34)]),
 o 10 (.alloc 354010 [(.bool false),.nil,.nil,(.bool false),.nil,.nil]),n (.st 6 10 35)]
def r6:=[o 36 (.call 96 [(k 0)]),o 37 (.call 96 [(k 0)]),o 38 (.build [(.bool false),.nil,.nil,(.bool false),.nil,.nil] [(0,3,36),(3,3,37)]),
 o 11 (.alloc 354011 [(.bool false),.nil,.nil,(.bool false),.nil,.nil]),n (.st 6 11 38)]
def r7:=[o 39 (.ld false 1 4),o 40 (.len 39),o 41 (.a6 (k 0))]
def r8:=[o 42 (.bin .lss 41 40)]
def r9:=[m 43 41,o 44 (.a8 none 8 39 41),o 45 (.ld true 8 44),o 13 (.alloc 354013 [.nil,(.bool false),.nil,.nil,.nil,(.bool false),.nil,.nil]),m 12 43,
 n (.st 8 13 45)]
def BI:=[m 46 12,o 47 (.mm false [46,(k 1)]),m 14 47]
def BK:=[m 48 14,m 49 14,o 50 (.a8 (some 2) 3 10 49),o 51 (.ld true 3 50),o 52 (.a5 13 1),o 53 (.ld true 3 52),o 54 (.a5 13 0),o 55 (.ld false 1 54),
 m 56 0,o 57 (.a8 none 3 55 56),o 58 (.ld true 3 57),o 59 (.call 256 [58]),o 60 (.call 99 [53,59]),o 61 (.call 98 [51,60]),
 o 62 (.a8 (some 2) 3 10 48),n (.st 3 62 61)]
def o0:=[m 63 14,m 64 14,o 65 (.a8 (some 2) 3 11 64),o 66 (.ld true 3 65),o 67 (.a5 13 1),o 68 (.ld true 3 67),o 69 (.ld true 8 2),m 70 7,o 71 (.a5 13 4),
 o 72 (.ld true 4 71),o 73 (.call 305 [69,70,72]),o 74 (.call 99 [68,73]),o 75 (.call 98 [66,74]),o 76 (.a8 (some 2) 3 11 63),n (.st 3 76 75)]
def BX:=[o 77 (.bin .add 41 (k 1)),m 41 77]
def u7:=[o 78 (.a6 (k 0))]
def w3:=[o 79 (.bin .lss 78 (k 2))]
def x5:=[m 80 78,m 15 80]
def CX:=[m 82 15,o 83 (.a8 (some 2) 3 11 82),q 84 [354016] (.ld true 3 83),q 85 [354016] (.ld true 3 9),
 q 86 [354016] (.call 100 [84,85]),m 81 86,o 87 (.ext 81 0),o 88 (.ext 81 1),o 16 (.alloc 354016 [(.bool false),.nil,.nil]),n (.st 3 16 87),
 m 17 88]
def z9:=[m 89 15,m 90 15,o 91 (.a8 (some 2) 3 10 90),o 92 (.ld true 3 91),o 93 (.ld true 3 16),o 94 (.call 98 [92,93]),o 95 (.a8 (some 2) 3 10 89),
 n (.st 3 95 94)]
def ax:=[o 96 (.bin .add 78 (k 1)),m 78 96]
def az:=[o 97 (.a8 (some 2) 3 10 (k 0)),o 98 (.ld true 3 97),o 99 (.a8 (some 2) 3 10 (k 1)),o 100 (.ld true 3 99),
 o 101 (.build [(.bool false),.nil,.nil,(.bool false),.nil,.nil] [(0,3,98),(3,3,100)]),n (.st 6 6 101)]
def l1:=(s (p r8) (s (i 42 .skip (x 0)) (s (b 1 (s (d r9 [42,43,44,45]) (s (d BI [12,46,47]) (s (e BK [48,49,50,51,52,53,54,55,56,57,58,59,60,61,62]) (e o0 [13,14,63,64,65,66,67,68,69,70,71,72,73,74,75,76]))))) (d BX [77]))))
def l2:=(s (p w3) (s (i 79 .skip (x 2)) (s (b 3 (s (d x5 [79,80]) (s (e CX [17,81,82,83,84,85,86,87,88]) (e z9 [15,16,89,90,91,92,93,94,95])))) (d ax [96]))))
def c:=(s (p r0) (s (d r1 [1,18,19,20]) (s (d r2 [21,22,23]) (s (d r3 [24,25,26]) (s (e r4 [3,8,27,28,29,30,31,32]) (s (d r5 [33,34,35]) (s (d r6 [36,37,38]) (s (s (d r7 [4]) (b 0 (w l1))) (s (s (d u7 [0,2,7,39,40,41,42]) (b 2 (w l2))) (s (d az [9,10,11,78,79,97,98,99,100,101]) .ret))))))))))
end NX
def NX:AFn:=⟨5,NX.c,[.cell 6 true 6],false⟩
namespace N4
def r0:=[o 3 (.box 355003 0),o 4 (.box 355004 1),o 6 (.alloc 355006 [(.bool false),.nil,.nil])]
def r1:=[m 14 2,o 15 (.len 14),o 16 (.mk 355016 1 24 [.nil] 15 15),m 7 16]
def r2:=[m 17 2,o 18 (.len 17),o 19 (.a6 (k 0))]
def r3:=[o 20 (.bin .lss 19 18)]
def r4:=[m 21 19,o 22 (.a8 none 8 17 19),o 23 (.ld true 8 22),o 9 (.alloc 355009 [.nil,(.bool false),.nil,.nil,.nil,(.bool false),.nil,.nil]),m 8 21,
 n (.st 8 9 23)]
def r5:=[o 24 (.a5 4 10),o 25 (.ld false 1 24),o 26 (.len 25),o 27 (.a6 (k 0))]
def r6:=[o 28 (.bin .lss 27 26)]
def r7:=[o 29 (.a8 none 1 25 27),o 30 (.ld false 1 29),m 11 30]
def r8:=[m 31 7,m 32 8,m 33 7,m 34 8,o 35 (.a8 none 1 33 34),q 36 [355042] (.ld false 1 35),o 37 (.a5 9 0),o 38 (.ld false 1 37),m 39 11,
 o 40 (.a8 none 3 38 39),o 41 (.ld true 3 40),o 42 (.b7 355042 3 [41]),o 43 (.app 355043 3 56 36 42),o 44 (.a8 none 1 31 32),n (.st 1 44 43)]
def r9:=[o 45 (.bin .add 27 (k 1)),m 27 45]
def BI:=[o 46 (.bin .add 19 (k 1)),m 19 46]
def BK:=[m 47 7,o 48 (.call 295 [47]),o 12 (.alloc 355012 [(.bool false),.nil,.nil]),n (.st 3 12 48)]
def o0:=[m 49 2,o 50 (.len 49),o 51 (.a6 (k 0))]
def BX:=[o 52 (.bin .lss 51 50)]
def u7:=[m 53 51,m 13 53]
def w3:=[m 54 2,m 55 13,o 56 (.ld true 8 3),m 57 7,m 58 13,o 59 (.a8 none 1 57 58),o 60 (.ld false 1 59),o 61 (.ld true 3 12),o 62 (.call 296 [60,61]),
 o 63 (.m5 304 [56,62]),o 64 (.a8 none 8 54 55),o 65 (.a5 64 4),n (.st 4 65 63)]
def x5:=[o 66 (.bin .add 51 (k 1)),m 51 66]
def CX:=[o 67 (.ld true 3 12),n (.st 3 6 67)]
def l2:=(s (p r6) (s (i 28 .skip (x 2)) (s (b 3 (s (d r7 [28,29,30]) (e r8 [11,31,32,33,34,35,36,37,38,39,40,41,42,43,44]))) (d r9 [45]))))
def l1:=(s (p r3) (s (i 20 .skip (x 0)) (s (b 1 (s (d r4 [20,21,22,23]) (s (d r5 [24]) (b 2 (w l2))))) (d BI [8,9,25,26,27,28,46]))))
def l3:=(s (p BX) (s (i 52 .skip (x 4)) (s (b 5 (s (d u7 [52,53]) (e w3 [13,54,55,56,57,58,59,60,61,62,63,64,65]))) (d x5 [66]))))
def c:=(s (d r0 [0,1]) (s (d r1 [14,15,16]) (s (s (p r2) (b 0 (w l1))) (s (d BK [4,17,18,19,20,47,48]) (s (s (d o0 [49]) (b 4 (w l3))) (s (d CX [2,3,7,12,50,51,52,67]) .ret))))))
end N4
def N4:AFn:=⟨3,N4.c,[.cell 6 true 3],false⟩
namespace NW
def r0:=[o 1 (.box 356001 0),o 2 (.a6 (.c (.aj .nilFunc))),o 3 (.a6 (k 0))]
def r1:=[o 15 (.a5 1 8),o 16 (.ld false 1 15),o 17 (.mk 356017 1 24 [.nil] 16 16),o 4 (.alloc 356004 [.nil]),n (.st 1 4 17)]
def r2:=[o 18 (.ld false 1 4),o 19 (.len 18),o 20 (.a6 (k 0))]
def r3:=[o 21 (.bin .lss 20 19)]
def r4:=[m 22 20,m 5 22]
def r5:=[q 23 [356028] (.ld false 1 4),m 24 5,o 25 (.ld true 12 1),m 26 5,o 27 (.bin .add (k 1) 26),o 28 (.o5 356028 351 [25,27]),
 o 29 (.a8 none 1 23 24),n (.st 1 29 28)]
def r6:=[o 30 (.bin .add 20 (k 1)),m 20 30]
def r7:=[o 6 (.y8 356006 1)]
def r8:=[o 31 (.a5 1 10),o 32 (.ld false 1 31),o 33 (.len 32),o 34 (.a6 (k 0))]
def r9:=[o 35 (.bin .lss 34 33)]
def BI:=[o 36 (.a8 none 1 32 34),o 37 (.ld false 1 36),m 8 37]
def BK:=[m 38 6,o 39 (.ld false 1 4),m 40 8,o 41 (.call 352 [39,40]),o 42 (.b7 356042 1 [41]),o 43 (.app 356043 1 24 38 42),m 6 43]
def o0:=[o 44 (.bin .add 34 (k 1)),m 34 44]
def BX:=[m 46 6,o 47 (.call 303 [46]),m 45 47,o 48 (.ext 45 0),o 49 (.ext 45 1),o 9 (.alloc 356009 [.nil,(.bool false),.nil,.nil,z,(.bool false),.nil,.nil]),
 n (.st 8 9 48),m 10 49]
def u7:=[m 50 10,o 51 (.bin .neq 50 (k 0))]
def w3:=[m 52 10,o 2 (.a6 (.c (.aj .nilFunc))),m 3 52]
def x5:=[o 53 (.ld true 12 1),o 54 (.call 351 [53,(k 0)]),o 55 (.call 96 [(k 1)]),
 o 56 (.build [.nil,(.bool false),.nil,.nil,.nil,(.bool false),.nil,.nil] [(0,1,54),(1,3,55)]),o 57 (.b7 356057 8 [56]),
 o 11 (.alloc 356011 [.nil]),n (.st 1 11 57)]
def CX:=[o 58 (.a5 1 9),o 59 (.ld false 1 58),o 60 (.len 59),o 61 (.a6 (k 0))]
def z9:=[o 62 (.bin .lss 61 60)]
def ax:=[m 63 61,m 12 63]
def az:=[o 64 (.ld true 12 1),m 65 12,o 66 (.call 350 [64,65]),o 13 (.alloc 356013 [(.bool false),.nil,.nil]),n (.st 3 13 66)]
def dn:=[o 67 (.ld true 3 13),o 68 (.call 97 [67]),o 69 (.bin .gtr 68 (k 0))]
def ff:=[q 70 [356080] (.ld false 1 11),o 71 (.ld true 12 1),o 72 (.a5 1 8),o 73 (.ld false 1 72),o 74 (.bin .add (k 1) 73),m 75 12,
 o 76 (.bin .add 74 75),o 77 (.call 351 [71,76]),o 78 (.ld true 3 13),
 o 79 (.build [.nil,(.bool false),.nil,.nil,.nil,(.bool false),.nil,.nil] [(0,1,77),(1,3,78)]),o 80 (.b7 356080 8 [79]),
 o 81 (.app 356081 8 160 70 80),n (.st 1 11 81)]
def fw:=[o 82 (.bin .add 61 (k 1)),m 61 82]
def H1:=[o 83 (.ld true 8 9),o 84 (.ld true 12 1),o 85 (.ld false 1 11),o 86 (.g6 355 [83,84,85]),o 14 (.alloc 356014 [(.bool false),.nil,.nil]),
 n (.st 3 14 86)]
def JU:=[o 87 (.mf false 354 [4,9,14,11]),m 2 87,o 3 (.a6 (k 0))]
def l1:=(s (p r3) (s (i 21 .skip (x 0)) (s (b 1 (s (d r4 [21,22]) (e r5 [5,23,24,25,26,27,28,29]))) (d r6 [30]))))
def l2:=(s (p r9) (s (i 35 .skip (x 2)) (s (b 3 (s (d BI [35,36,37]) (d BK [8,38,39,40,41,42,43]))) (d o0 [44]))))
def l3:=(s (p z9) (s (i 62 .skip (x 4)) (s (b 5 (s (d ax [62,63]) (s (d az [64,65,66]) (s (d dn [67,68]) (i 69 (e ff [12,13,69,70,71,72,73,74,75,76,77,78,79,80,81]) .skip))))) (d fw [12,13,69,82]))))
def c:=(s (d r0 [0,2,3]) (s (d r1 [15,16,17]) (s (s (d r2 [18]) (b 0 (w l1))) (s (d r7 [19,20,21]) (s (s (d r8 [31]) (b 2 (w l2))) (s (d BX [6,32,33,34,35,45,46,47,48,49]) (s (s (d u7 [50]) (i 51 (s (d w3 [1,4,9,10,51,52]) .ret) .skip)) (s (d x5 [10,51,53,54,55,56,57]) (s (s (d CX [58,59]) (b 4 (w l3))) (s (d H1 [1,60,61,62,83,84,85,86]) (s (d JU [4,9,11,14,87]) .ret)))))))))))
end NW
def NW:AFn:=⟨1,NW.c,[.tmp 2,.tmp 3],false⟩
namespace NS
def r0:=[o 1 (.box 1 0),o 2 (.a6 (k 0)),o 3 (.a6 (k 0))]
def r1:=[o 12 (.ld true 12 1),o 13 (.call 349 [12]),o 14 (.un .not 13)]
def r2:=[o 2 (.a6 (k 0)),o 3 (.a6 (k 2))]
def r3:=[o 16 (.ld true 12 1),o 17 (.g6 356 [16]),m 15 17,o 18 (.ext 15 0),o 19 (.ext 15 1),m 4 18,m 5 19]
def r4:=[m 20 5,o 21 (.bin .neq 20 (k 0))]
def r5:=[m 22 5,o 2 (.a6 (k 0)),m 3 22]
def r6:=[o 23 (.a5 1 0),o 24 (.ld true 4 23),o 25 (.call 4 [24]),o 26 (.call 96 [25]),o 6 (.alloc 6 [(.bool false),.nil,.nil]),n (.st 3 6 26)]
def r7:=[o 27 (.a5 1 0),o 28 (.ld true 4 27),o 29 (.call 4 [28]),m 7 29]
def r8:=[o 30 (.a5 1 9),o 31 (.ld false 1 30),o 32 (.len 31),o 33 (.a6 (k 0))]
def r9:=[o 34 (.bin .lss 33 32)]
def BI:=[m 35 33,m 8 35]
def BK:=[m 36 4,o 37 (.a5 1 8),o 38 (.ld false 1 37),o 39 (.bin .add (k 1) 38),m 40 8,o 41 (.bin .add 39 40),o 42 (.m8 36 [41]),
 o 9 (.alloc 9 [(.bool false),.nil,.nil,(.bool false),.nil,.nil]),n (.st 6 9 42)]
def o0:=[o 43 (.a5 9 3),o 44 (.ld true 3 43),o 45 (.ld true 3 6),o 46 (.call 198 [44,45]),o 47 (.bin .gtr 46 (k 0))]
def BX:=[o 2 (.a6 (k 0)),o 3 (.a6 (k 18))]
def u7:=[o 10 (.a6 (k 0))]
def w3:=[m 48 10,m 49 7,o 50 (.bin .lss 48 49)]
def x5:=[m 51 10,m 52 7,o 53 (.bin .add 51 52),o 54 (.bin .add 53 (k 1)),o 55 (.bin .quo 54 (k 2)),m 11 55]
def CX:=[o 56 (.ld true 6 9),m 57 11,o 58 (.call 353 [56,57]),o 59 (.ld true 3 6),o 60 (.call 198 [58,59]),o 61 (.bin .gtr 60 (k 0))]
def z9:=[m 62 11,o 63 (.bin .sub 62 (k 1)),m 7 63]
def ax:=[m 64 11,m 10 64]
def az:=[o 65 (.bin .add 33 (k 1)),m 33 65]
def dn:=[m 66 7,m 2 66,o 3 (.a6 (k 0))]
def l2:=(s (s (d w3 [48,49]) (i 50 .skip (x 2))) (b 3 (s (d x5 [50,51,52,53,54,55]) (s (e CX [56,57,58,59,60]) (i 61 (d z9 [11,61,62,63]) (d ax [11,61,64]))))))
def l1:=(s (p r9) (s (i 34 .skip (x 0)) (s (b 1 (s (d BI [34,35]) (s (d BK [8,36,37,38,39,40,41,42]) (s (s (d o0 [43,44,45,46]) (i 47 (s (d BX [1,4,6,7,9,32,33,47]) .ret) .skip)) (s (d u7 [47]) (b 2 (w l2))))))) (d az [9,10,50,65]))))
def c:=(s (d r0 [0,2,3]) (s (s (d r1 [12,13]) (i 14 (s (d r2 [1,14]) .ret) .skip)) (s (d r3 [14,15,16,17,18,19]) (s (s (d r4 [20]) (i 21 (s (d r5 [1,4,5,21,22]) .ret) .skip)) (s (d r6 [5,21,23,24,25,26]) (s (d r7 [27,28,29]) (s (s (d r8 [30,31]) (b 0 (w l1))) (s (d dn [1,4,6,7,32,33,34,66]) .ret))))))))
end NS
def NS:AFn:=⟨1,NS.c,[.tmp 2,.tmp 3],false⟩
structure n8 (L:Lib):Prop extends m4 L where
 OC:L 349=some F.OC
 N6:L 350=some F.N6
 H0:L 351=some F.H0
 N7:L 352=some F.N7
 NV:L 353=some F.NV
 NX:L 354=some F.NX
 N4:L 355=some F.N4
 NW:L 356=some F.NW
 NS:L 358=some F.NS
end Go.c6.F

namespace Go.c6.F
open C
namespace NR
def r0:=[o 3 (.box 3 0),o 6 (.alloc 6 [(.bool false),.nil,.nil]),o 7 (.a6 (k 0))]
def r1:=[o 10 (.ld true 12 3),o 11 (.call 349 [10]),o 12 (.un .not 11)]
def r2:=[o 13 (.build [(.bool false),.nil,.nil] []),n (.st 3 6 13),o 7 (.a6 (k 2))]
def r3:=[m 14 1,o 15 (.bin .lss 14 (k 0)),m 16 15,g 17 16 false (.a6 1),g 18 16 false (.a5 3 8),g 19 16 false (.ld false 1 18),g 20 16 false (.a5 3 9),
 g 21 16 false (.ld false 1 20),g 22 16 false (.len 21),g 23 16 false (.bin .add 19 22),g 24 16 false (.bin .gtr 17 23),
 o 25 (.pick 16 (.c (.bool true)) 24),m 26 25,g 27 26 false (.a6 2),g 28 26 false (.bin .lss 27 (k 0)),o 29 (.pick 26 (.c (.bool true)) 28),m 30 29,
 g 31 30 false (.a6 2),g 32 30 false (.a5 3 0),g 33 30 false (.ld true 4 32),g 34 30 false (.call 4 [33]),g 35 30 false (.bin .gtr 31 34),
 o 36 (.pick 30 (.c (.bool true)) 35)]
def r4:=[o 37 (.build [(.bool false),.nil,.nil] []),n (.st 3 6 37),o 7 (.a6 (k 1))]
def r5:=[o 39 (.ld true 12 3),o 40 (.g6 356 [39]),m 38 40,o 41 (.ext 38 0),o 42 (.ext 38 1),m 8 41,m 9 42]
def r6:=[m 43 9,o 44 (.bin .neq 43 (k 0))]
def r7:=[o 45 (.build [(.bool false),.nil,.nil] []),m 46 9,n (.st 3 6 45),m 7 46]
def r8:=[m 47 8,m 48 1,o 49 (.m8 47 [48]),m 50 2,o 51 (.call 353 [49,50]),n (.st 3 6 51),o 7 (.a6 (k 0))]
def c:=(s (d r0 [0,7]) (s (s (d r1 [10,11]) (i 12 (s (d r2 [1,2,3,12,13]) .ret) .skip)) (s (s (d r3 [12,14,15,16,17,18,19,20,21,22,23,24,25,26,27,28,29,30,31,32,33,34,35]) (i 36 (s (d r4 [1,2,3,36,37]) .ret) .skip)) (s (d r5 [3,36,38,39,40,41,42]) (s (s (d r6 [43]) (i 44 (s (d r7 [1,2,8,9,44,45,46]) .ret) .skip)) (s (d r8 [1,2,8,9,44,47,48,49,50,51]) .ret))))))
end NR
def NR:AFn:=⟨3,NR.c,[.cell 6 true 3,.tmp 7],false⟩
structure iy (L:Lib):Prop extends n8 L where
 NR:L 360=some F.NR
end Go.c6.F

namespace Go.c6.F
open C
namespace SM
def r0:=[o 1 (.box 1 0),o 2 (.a6 (k 0)),o 3 (.a6 (.c (.bool false)))]
def r1:=[o 7 (.ld true 3 1),o 8 (.call 124 [(k 1099511627776)]),o 9 (.call 127 [7,8]),o 10 (.bin .gtr 9 (k 0)),m 11 10,g 12 11 false (.ld true 3 1),
 g 13 11 false (.call 124 [(k (-1099511627776))]),g 14 11 false (.call 127 [12,13]),g 15 11 false (.bin .lss 14 (k 0)),o 16 (.pick 11 (.c (.bool true)) 15)]
def r2:=[o 2 (.a6 (k 0)),o 3 (.a6 (.c (.bool false)))]
def r3:=[o 4 (.a6 (k (-1099511627776))),o 5 (.a6 (k 1099511627776))]
def r4:=[m 17 4,m 18 5,o 19 (.bin .lss 17 18)]
def r5:=[m 20 4,m 21 5,m 22 4,o 23 (.bin .sub 21 22),o 24 (.bin .add 23 (k 1)),o 25 (.bin .quo 24 (k 2)),o 26 (.bin .add 20 25),m 6 26]
def r6:=[m 27 6,o 28 (.call 124 [27]),o 29 (.ld true 3 1),o 30 (.call 127 [28,29]),o 31 (.bin .leq 30 (k 0))]
def r7:=[m 32 6,m 4 32]
def r8:=[m 33 6,o 34 (.bin .sub 33 (k 1)),m 5 34]
def r9:=[m 35 4,m 2 35,o 3 (.a6 (.c (.bool true)))]
def l1:=(s (s (d r4 [17,18]) (i 19 .skip (x 0))) (b 1 (s (d r5 [19,20,21,22,23,24,25,26]) (s (e r6 [27,28,29,30]) (i 31 (d r7 [6,31,32]) (d r8 [6,31,33,34]))))))
def c:=(s (d r0 [0,2,3]) (s (s (e r1 [7,8,9,10,11,12,13,14,15]) (i 16 (s (d r2 [1,16]) .ret) .skip)) (s (d r3 [16]) (s (b 0 (w l1)) (s (d r9 [1,4,5,19,35]) .ret)))))
end SM
def SM:AFn:=⟨1,SM.c,[.tmp 2,.tmp 3],false⟩
namespace PW
def r0:=[o 2 (.box 2 0),o 4 (.alloc 4 [(.bool false),.nil,.nil]),o 5 (.a6 (k 0))]
def r1:=[o 8 (.ld true 12 2),o 9 (.call 27 [8]),o 10 (.un .not 9)]
def r2:=[o 11 (.build [(.bool false),.nil,.nil] []),n (.st 3 4 11),o 5 (.a6 (k 2))]
def r3:=[m 12 1,o 13 (.a5 2 9),o 14 (.ld false 1 13),o 15 (.len 14),o 16 (.bin .sub 15 (k 1)),o 17 (.call 10 [12,(k 0),16]),o 18 (.un .not 17)]
def r4:=[o 19 (.build [(.bool false),.nil,.nil] []),n (.st 3 4 19),o 5 (.a6 (k 1))]
def r5:=[o 6 (.a6 (.c (.bool true)))]
def r6:=[o 7 (.a6 (k 0))]
def r7:=[m 20 7,o 21 (.a5 2 9),o 22 (.ld false 1 21),m 23 1,o 24 (.a8 none 1 22 23),o 25 (.a5 24 0),o 26 (.ld false 1 25),o 27 (.len 26),
 o 28 (.bin .lss 20 27)]
def r9:=[m 31 6,m 32 31,g 33 32 true (.a5 2 9),g 34 32 true (.ld false 1 33),g 35 32 true (.a6 1),g 36 32 true (.a8 none 1 34 35),g 37 32 true (.a5 36 0),
 g 38 32 true (.ld false 1 37),g 39 32 true (.a6 7),g 40 32 true (.a8 none 2 38 39),g 41 32 true (.a5 40 1),g 42 32 true (.ld false 1 41),
 g 43 32 true (.a5 2 4),g 44 32 true (.a5 43 1),g 45 32 true (.ld false 1 44),g 46 32 true (.conv .u64 45),g 47 32 true (.bin .shl (k 1) 46),
 g 48 32 true (.bin .rem 42 47),g 49 32 true (.bin .eql 48 (k 0)),o 50 (.pick 32 49 (.c (.bool false))),m 6 50]
def r8:=[m 29 7,o 30 (.bin .add 29 (k 1)),m 7 30]
def BI:=[m 52 6,m 51 52]
def BK:=[o 53 (.call 124 [(k 0)]),n (.st 3 4 53),o 5 (.a6 (k 0))]
def o0:=[o 55 (.a5 2 0),o 56 (.a5 55 2),o 57 (.ld false 1 56),o 58 (.bin .eql 57 (k 2)),m 54 58]
def BX:=[o 59 (.call 125 [(k 1),(k 2)]),n (.st 3 4 59),o 5 (.a6 (k 0))]
def u7:=[o 60 (.call 124 [(k 1)]),n (.st 3 4 60),o 5 (.a6 (k 0))]
def l1:=(s (s (d r7 [20,21,22,23,24,25,26,27]) (i 28 .skip (x 0))) (s (b 1 (e r9 [28,31,32,33,34,35,36,37,38,39,40,41,42,43,44,45,46,47,48,49,50])) (d r8 [29,30])))
def c:=(s (d r0 [0,5]) (s (s (d r1 [8,9]) (i 10 (s (d r2 [1,2,10,11]) .ret) .skip)) (s (s (d r3 [10,12,13,14,15,16,17]) (i 18 (s (d r4 [1,2,18,19]) .ret) .skip)) (s (d r5 [18]) (s (s (p r6) (b 0 (w l1))) (s (b 2 (s (d BI [1,6,7,28,52]) (i 51 (s (d BK [2,51,53]) .ret) (s (d o0 [2,51,55,56,57,58]) (i 54 (s (d BX [54,59]) .ret) .skip))))) (s (d u7 [54,60]) .ret)))))))
end PW
def PW:AFn:=⟨2,PW.c,[.cell 4 true 3,.tmp 5],false⟩
namespace P1
def r0:=[o 1 (.box 1 0),o 2 (.a6 (.c (.bool false)))]
def r1:=[o 3 (.ld true 12 1),o 4 (.call 27 [3]),m 5 4,g 6 5 true (.a5 1 8),g 7 5 true (.ld false 1 6),g 8 5 true (.bin .leq 7 (k 16)),
 o 9 (.pick 5 8 (.c (.bool false))),m 2 9]
def c:=(s (d r0 [0,2]) (s (d r1 [1,3,4,5,6,7,8,9]) .ret))
end P1
def P1:AFn:=⟨1,P1.c,[.tmp 2],false⟩
namespace PY
def r0:=[o 3 (.box 3 0),o 6 (.alloc 6 [(.bool false),.nil,.nil]),o 7 (.a6 (k 0))]
def r1:=[m 20 1,o 21 (.a5 3 11),n (.st 1 21 20)]
def r2:=[o 23 (.ld true 12 3),o 24 (.call 165 [23]),m 22 24,o 25 (.ext 22 0),o 26 (.ext 22 1),o 8 (.alloc 8 [.nil,.nil,.nil,(.bool false),.nil,.nil]),
 n (.st 6 8 25),m 9 26]
def r3:=[o 28 (.ld true 6 8),o 29 (.call 315 [28]),m 27 29,o 30 (.ext 27 0),o 31 (.ext 27 1),o 10 (.alloc 10 [(.bool false),.nil,.nil]),n (.st 3 10 30),m 11 31]
def r4:=[m 32 11,o 33 (.bin .neq 32 (k 0))]
def r5:=[o 34 (.build [(.bool false),.nil,.nil] []),m 35 11,n (.st 3 6 34),m 7 35]
def r6:=[m 36 2,q 37 [12] (.call 124 [36]),q 38 [12] (.ld true 3 10),q 39 [12] (.call 128 [37,38]),
 o 12 (.alloc 12 [(.bool false),.nil,.nil]),n (.st 3 12 39)]
def r7:=[o 13 (.a6 (k 0))]
def r8:=[m 40 13,o 41 (.a5 3 9),o 42 (.ld false 1 41),o 43 (.len 42),o 44 (.bin .lss 40 43)]
def BI:=[o 48 (.ld true 12 3),m 49 13,o 50 (.call 362 [48,49]),m 47 50,o 51 (.ext 47 0),o 52 (.ext 47 1),o 14 (.alloc 14 [(.bool false),.nil,.nil]),
 n (.st 3 14 51),m 15 52]
def BK:=[o 54 (.ld true 12 3),m 55 13,o 56 (.call 166 [54,55]),m 53 56,o 57 (.ext 53 0),o 58 (.ext 53 1),
 o 16 (.alloc 16 [.nil,.nil,.nil,(.bool false),.nil,.nil]),n (.st 6 16 57),m 17 58]
def o0:=[o 60 (.ld true 6 16),o 61 (.call 315 [60]),m 59 61,o 62 (.ext 59 0),o 63 (.ext 59 1),o 18 (.alloc 18 [(.bool false),.nil,.nil]),n (.st 3 18 62),
 m 19 63]
def BX:=[m 64 19,o 65 (.bin .neq 64 (k 0))]
def u7:=[o 66 (.build [(.bool false),.nil,.nil] []),m 67 19,n (.st 3 6 66),m 7 67]
def w3:=[o 68 (.ld true 3 12),o 69 (.ld true 3 14),o 70 (.ld true 3 18),o 71 (.call 128 [69,70]),o 72 (.call 126 [68,71]),n (.st 3 12 72)]
def r9:=[m 45 13,o 46 (.bin .add 45 (k 1)),m 13 46]
def x5:=[o 73 (.ld true 3 12),n (.st 3 6 73),o 7 (.a6 (k 0))]
def l1:=(s (s (d r8 [40,41,42,43]) (i 44 .skip (x 0))) (s (b 1 (s (d BI [15,44,47,48,49,50,51,52]) (s (d BK [17,53,54,55,56,57,58]) (s (d o0 [16,59,60,61,62,63]) (s (s (d BX [64]) (i 65 (s (d u7 [3,12,13,14,18,19,65,66,67]) .ret) .skip)) (e w3 [14,18,19,65,68,69,70,71,72])))))) (d r9 [45,46])))
def c:=(s (d r0 [0,7]) (s (d r1 [1,20,21]) (s (d r2 [9,22,23,24,25,26]) (s (d r3 [8,27,28,29,30,31]) (s (s (d r4 [32]) (i 33 (s (d r5 [2,3,10,11,33,34,35]) .ret) .skip)) (s (e r6 [2,10,11,33,36,37,38,39]) (s (s (p r7) (b 0 (w l1))) (s (d x5 [3,12,13,44,73]) .ret))))))))
end PY
def PY:AFn:=⟨3,PY.c,[.cell 6 true 3,.tmp 7],false⟩
namespace K7
def r0:=[o 2 (.box 2 0),o 4 (.a6 (.c (.bool false))),o 5 (.a6 (k 0))]
def r1:=[o 14 (.ld true 12 2),o 15 (.call 363 [14]),o 16 (.un .not 15),m 13 16]
def r2:=[o 4 (.a6 (.c (.bool false))),o 5 (.a6 (k 2))]
def r3:=[m 18 1,o 19 (.a5 2 0),o 20 (.ld true 4 19),o 21 (.call 13 [20]),o 22 (.call 10 [18,(k 0),21]),o 23 (.un .not 22),m 17 23]
def r4:=[o 4 (.a6 (.c (.bool false))),o 5 (.a6 (k 1))]
def r5:=[o 25 (.ld true 12 2),o 26 (.call 165 [25]),m 24 26,o 27 (.ext 24 0),o 28 (.ext 24 1),o 6 (.alloc 6 [.nil,.nil,.nil,(.bool false),.nil,.nil]),
 n (.st 6 6 27),m 7 28]
def r6:=[o 30 (.a5 6 0),o 31 (.ld false 1 30),o 32 (.call 314 [31]),m 29 32,o 33 (.ext 29 0),o 34 (.ext 29 1),m 8 33,m 9 34]
def r7:=[m 35 9,o 36 (.bin .neq 35 (k 0))]
def r8:=[m 37 9,o 4 (.a6 (.c (.bool false))),m 5 37]
def r9:=[o 10 (.a6 (k 0))]
def BI:=[m 38 10,o 39 (.a5 2 9),o 40 (.ld false 1 39),o 41 (.len 40),o 42 (.bin .lss 38 41)]
def o0:=[o 46 (.ld true 12 2),o 47 (.a5 2 8),o 48 (.ld false 1 47),o 49 (.bin .add (k 1) 48),m 50 10,o 51 (.bin .add 49 50),m 52 1,
 o 53 (.call 364 [46,51,52]),m 45 53,o 54 (.ext 45 0),o 55 (.ext 45 1),o 11 (.alloc 11 [(.bool false),.nil,.nil]),n (.st 3 11 54),m 12 55]
def BX:=[m 56 12,o 57 (.bin .neq 56 (k 0))]
def u7:=[m 58 12,o 4 (.a6 (.c (.bool false))),m 5 58]
def w3:=[o 59 (.ld true 3 11),o 60 (.a5 2 0),o 61 (.ld true 4 60),o 62 (.call 13 [61]),o 63 (.call 124 [62]),o 64 (.call 127 [59,63]),o 65 (.bin .gtr 64 (k 0))]
def x5:=[o 4 (.a6 (.c (.bool false))),o 5 (.a6 (k 0))]
def BK:=[m 43 10,o 44 (.bin .add 43 (k 1)),m 10 44]
def CX:=[o 4 (.a6 (.c (.bool true))),o 5 (.a6 (k 0))]
def l1:=(s (s (d BI [38,39,40,41]) (i 42 .skip (x 1))) (s (b 2 (s (d o0 [42,45,46,47,48,49,50,51,52,53,54,55]) (s (s (d BX [56]) (i 57 (s (d u7 [1,2,10,11,12,57,58]) .ret) .skip)) (s (e w3 [11,12,57,59,60,61,62,63,64]) (i 65 (s (d x5 [1,2,10,65]) .ret) .skip))))) (d BK [43,44,65])))
def c:=(s (d r0 [0,4,5]) (s (b 0 (s (d r1 [14,15,16]) (i 13 (s (d r2 [1,2,13]) .ret) (s (d r3 [13,18,19,20,21,22,23]) (i 17 (s (d r4 [1,2,17]) .ret) .skip))))) (s (d r5 [7,17,24,25,26,27,28]) (s (s (d r6 [6,8,29,30,31,32,33,34]) (s (d r7 [35]) (i 36 (s (d r8 [1,2,9,36,37]) .ret) .skip))) (s (s (d r9 [9,36]) (b 1 (w l1))) (s (d CX [1,2,10,42]) .ret))))))
end K7
def K7:AFn:=⟨2,K7.c,[.tmp 4,.tmp 5],false⟩
namespace K6
def r0:=[o 1 (.box 1 0),o 2 (.a6 (k 0)),o 3 (.a6 (k 0))]
def r1:=[o 18 (.ld true 12 1),o 19 (.call 365 [18,(k 0)]),m 17 19,o 20 (.ext 17 0),o 21 (.ext 17 1),m 4 20,m 5 21]
def r2:=[m 22 5,o 23 (.bin .neq 22 (k 0))]
def r3:=[m 24 5,o 2 (.a6 (k 0)),m 3 24]
def r4:=[m 25 4,o 26 (.un .not 25)]
def r5:=[o 2 (.a6 (k 0)),o 3 (.a6 (k 18))]
def r6:=[o 27 (.a5 1 0),o 28 (.ld true 4 27),o 29 (.call 13 [28]),m 6 29]
def r7:=[o 7 (.a6 (k 0))]
def r8:=[m 30 7,o 31 (.a5 1 9),o 32 (.ld false 1 31),o 33 (.len 32),o 34 (.bin .lss 30 33)]
def BI:=[o 38 (.ld true 12 1),o 39 (.a5 1 8),o 40 (.ld false 1 39),o 41 (.bin .add (k 1) 40),m 42 7,o 43 (.bin .add 41 42),o 44 (.call 364 [38,43,(k 0)]),
 m 37 44,o 45 (.ext 37 0),o 46 (.ext 37 1),o 8 (.alloc 8 [(.bool false),.nil,.nil]),n (.st 3 8 45),m 9 46]
def BK:=[o 48 (.ld true 12 1),o 49 (.a5 1 8),o 50 (.ld false 1 49),o 51 (.bin .add (k 1) 50),m 52 7,o 53 (.bin .add 51 52),o 54 (.call 364 [48,53,(k 1)]),
 m 47 54,o 55 (.ext 47 0),o 56 (.ext 47 1),o 10 (.alloc 10 [(.bool false),.nil,.nil]),n (.st 3 10 55),m 11 56]
def o0:=[o 57 (.ld true 3 10),o 58 (.ld true 3 8),o 59 (.call 153 [57,58]),o 12 (.alloc 12 [(.bool false),.nil,.nil]),n (.st 3 12 59)]
def BX:=[o 60 (.ld true 3 12),o 61 (.call 155 [60]),o 62 (.bin .gtr 61 (k 0))]
def u7:=[o 64 (.a5 1 0),q 65 [13] (.ld true 4 64),q 66 [13] (.call 13 [65]),q 67 [13] (.call 124 [66]),
 q 68 [13] (.ld true 3 8),q 69 [13] (.call 153 [67,68]),q 70 [13] (.ld true 3 12),
 q 71 [13] (.call 154 [69,70]),m 63 71,o 72 (.ext 63 0),o 73 (.ext 63 1),o 13 (.alloc 13 [(.bool false),.nil,.nil]),n (.st 3 13 72),m 14 73]
def w3:=[o 75 (.ld true 3 13),o 76 (.call 361 [75]),m 74 76,o 77 (.ext 74 0),o 78 (.ext 74 1),m 15 77,m 16 78]
def x5:=[m 79 16]
def CX:=[m 80 6,m 81 15,o 82 (.mm false [80,81]),m 6 82]
def r9:=[m 35 7,o 36 (.bin .add 35 (k 1)),m 7 36]
def z9:=[m 83 6,m 2 83,o 3 (.a6 (k 0))]
def l1:=(s (s (d r8 [30,31,32,33]) (i 34 .skip (x 0))) (s (b 1 (s (d BI [9,34,37,38,39,40,41,42,43,44,45,46]) (s (d BK [11,47,48,49,50,51,52,53,54,55,56]) (s (d o0 [10,57,58,59]) (s (d BX [60,61]) (i 62 (s (e u7 [8,12,14,62,63,64,65,66,67,68,69,70,71,72,73]) (s (d w3 [13,74,75,76,77,78]) (s (d x5 [16]) (i 79 (d CX [15,79,80,81,82]) .skip)))) .skip)))))) (d r9 [8,12,15,35,36,62,79])))
def c:=(s (d r0 [0,2,3]) (s (d r1 [17,18,19,20,21]) (s (s (d r2 [22]) (i 23 (s (d r3 [1,4,5,23,24]) .ret) .skip)) (s (s (d r4 [4,5,23,25]) (i 26 (s (d r5 [1,26]) .ret) .skip)) (s (d r6 [26,27,28,29]) (s (s (p r7) (b 0 (w l1))) (s (d z9 [1,6,7,34,83]) .ret)))))))
end K6
def K6:AFn:=⟨1,K6.c,[.tmp 2,.tmp 3],false⟩
structure w8 (L:Lib):Prop extends x7 L,y5 L where
 SM:L 361=some F.SM
 PW:L 362=some F.PW
 P1:L 363=some F.P1
 PY:L 364=some F.PY
 K7:L 365=some F.K7
 K6:L 366=some F.K6
end Go.c6.F

namespace Go.c6.F
open C
namespace MT
def r0:=[o 2 (.box 2 0),o 4 (.a6 (.c (.bool false)))]
def r1:=[o 27 (.ld true 5 2),o 28 (.call 348 [27]),m 26 28,o 29 (.ext 26 0),o 30 (.ext 26 1),o 5 (.alloc 5 [z,z,z,z,z,z,z,z,z,.nil,.nil,z]),
 n (.st 12 5 29),m 6 30]
def r2:=[m 31 6,o 32 (.un .not 31),m 33 32,g 34 33 false (.a6 1),g 35 33 false (.len 34),g 36 33 false (.bin .gtr 35 (k 60)),o 37 (.pick 33 (.c (.bool true)) 36)]
def r3:=[m 38 6,m 39 38,g 40 39 true (.call 318 []),o 41 (.pick 39 40 (.c (.bool false))),m 4 41]
def r4:=[o 43 (.ld true 12 5),o 44 (.call 358 [43]),m 42 44,o 45 (.ext 42 0),o 46 (.ext 42 1),m 7 45,m 8 46]
def r5:=[m 47 8,o 48 (.bin .neq 47 (k 0))]
def r6:=[o 50 (.ld true 12 5),o 51 (.call 366 [50]),m 49 51,o 52 (.ext 49 0),o 53 (.ext 49 1),m 9 52,m 10 53]
def r7:=[o 54 (.call 318 []),m 55 54,g 56 55 true (.a6 8),g 57 55 true (.a6 10),g 58 55 true (.bin .eql 56 57),o 59 (.pick 55 58 (.c (.bool false))),m 4 59]
def r8:=[m 60 7,m 61 1,m 62 1,o 63 (.len 62),o 64 (.call 40 [60,61,63]),m 11 64]
def r9:=[o 65 (.a5 5 8),o 66 (.ld false 1 65),o 67 (.mk 67 1 8 [z] 66 66),m 12 67]
def BI:=[o 13 (.y8 13 3)]
def BK:=[o 14 (.a6 (k 0))]
def o0:=[m 68 14,o 69 (.a5 5 9),o 70 (.ld false 1 69),o 71 (.len 70),o 72 (.bin .lss 68 71)]
def u7:=[o 76 (.ld true 12 5),o 77 (.a5 5 8),o 78 (.ld false 1 77),o 79 (.bin .add (k 1) 78),m 80 14,o 81 (.bin .add 79 80),m 82 7,
 o 83 (.call 360 [76,81,82]),m 75 83,o 84 (.ext 75 0),o 85 (.ext 75 1),o 15 (.alloc 15 [(.bool false),.nil,.nil]),n (.st 3 15 84),m 16 85]
def w3:=[m 86 16,o 87 (.bin .neq 86 (k 0))]
def x5:=[o 4 (.a6 (.c (.bool false)))]
def CX:=[m 88 13,o 89 (.ld true 3 15),o 90 (.b7 90 3 [89]),o 91 (.app 91 3 56 88 90),m 13 91]
def BX:=[m 73 14,o 74 (.bin .add 73 (k 1)),m 14 74]
def z9:=[o 17 (.a6 (k 0))]
def ax:=[m 92 17,m 93 11,o 94 (.len 93),o 95 (.bin .lss 92 94)]
def dn:=[o 99 (.ld true 12 5),m 100 12,m 101 11,m 102 17,o 103 (.a8 none 1 101 102),o 104 (.ld false 1 103),o 105 (.call 24 [99,100,104]),m 98 105,
 o 106 (.ext 98 0),o 107 (.ext 98 1),o 108 (.ext 98 2),m 18 106,m 19 107,m 20 108]
def ff:=[o 110 (.ld true 12 5),m 111 12,m 112 11,m 113 17,o 114 (.a8 none 1 112 113),o 115 (.ld false 1 114),o 116 (.call 26 [110,111,115]),m 109 116,
 o 117 (.ext 109 0),o 118 (.ext 109 1),o 119 (.ext 109 2),o 120 (.ext 109 3),m 21 117,m 22 118,m 23 119,m 24 120]
def fw:=[m 121 20,o 122 (.bin .neq 121 (k 0)),m 123 122,g 124 123 false (.a6 24),g 125 123 false (.bin .neq 124 (k 0)),o 126 (.pick 123 (.c (.bool true)) 125),
 m 127 126,g 128 127 false (.a6 19),o 129 (.pick 127 (.c (.bool true)) 128),m 130 129,g 131 130 false (.a6 18),g 132 130 false (.len 131),
 g 133 130 false (.a5 5 8),g 134 130 false (.ld false 1 133),g 135 130 false (.bin .add (k 1) 134),g 136 130 false (.a5 5 9),
 g 137 130 false (.ld false 1 136),g 138 130 false (.len 137),g 139 130 false (.bin .add 135 138),g 140 130 false (.bin .neq 132 139),
 o 141 (.pick 130 (.c (.bool true)) 140)]
def H1:=[o 4 (.a6 (.c (.bool false)))]
def JU:=[o 25 (.a6 (k 0))]
def SI:=[m 142 25,o 143 (.a5 5 9),o 144 (.ld false 1 143),o 145 (.len 144),o 146 (.bin .lss 142 145)]
def ZN:=[m 149 18,o 150 (.a5 5 8),o 151 (.ld false 1 150),o 152 (.bin .add (k 1) 151),m 153 25,o 154 (.bin .add 152 153),o 155 (.a8 none 1 149 154),
 o 156 (.ld false 1 155),o 157 (.call 124 [156]),o 158 (.call 309 [157]),m 159 13,m 160 25,o 161 (.a8 none 3 159 160),o 162 (.ld true 3 161),
 o 163 (.call 127 [158,162]),o 164 (.bin .gtr 163 (k 0))]
def ZO:=[o 4 (.a6 (.c (.bool false)))]
def ZM:=[m 147 25,o 148 (.bin .add 147 (k 1)),m 25 148]
def Be:=[m 165 21,m 12 165]
def az:=[m 96 17,o 97 (.bin .add 96 (k 1)),m 17 97]
def Bf:=[o 166 (.call 318 []),m 4 166]
def l1:=(s (s (d o0 [68,69,70,71]) (i 72 .skip (x 0))) (s (b 1 (s (d u7 [72,75,76,77,78,79,80,81,82,83,84,85]) (s (s (d w3 [16,86]) (i 87 (s (d x5 [5,7,11,12,13,14,15,87]) .ret) .skip)) (d CX [15,87,88,89,90,91])))) (d BX [73,74])))
def l3:=(s (s (d SI [142,143,144,145]) (i 146 .skip (x 4))) (s (b 5 (s (e ZN [146,149,150,151,152,153,154,155,156,157,158,159,160,161,162,163]) (i 164 (s (d ZO [5,11,13,17,18,21,25,164]) .ret) .skip))) (d ZM [147,148,164])))
def l2:=(s (s (d ax [92,93,94]) (i 95 .skip (x 2))) (s (b 3 (s (e dn [95,98,99,100,101,102,103,104,105,106,107,108]) (s (e ff [12,22,23,109,110,111,112,113,114,115,116,117,118,119,120]) (s (s (d fw [19,20,24,121,122,123,124,125,126,127,128,129,130,131,132,133,134,135,136,137,138,139,140]) (i 141 (s (d H1 [5,11,13,17,18,21,141]) .ret) .skip)) (s (s (d JU [141]) (b 4 (w l3))) (d Be [18,21,25,146,165])))))) (d az [96,97])))
def c:=(s (d r0 [0,4]) (s (d r1 [2,26,27,28,29,30]) (s (s (d r2 [31,32,33,34,35,36]) (i 37 (s (d r3 [1,5,6,37,38,39,40,41]) .ret) .skip)) (s (d r4 [6,37,42,43,44,45,46]) (s (s (d r5 [47]) (i 48 (s (d r6 [1,5,7,9,48,49,50,51,52,53]) (s (d r7 [8,10,54,55,56,57,58,59]) .ret)) .skip)) (s (d r8 [1,8,48,60,61,62,63,64]) (s (d r9 [65,66,67]) (s (p BI) (s (s (p BK) (b 0 (w l1))) (s (s (d z9 [7,14,72]) (b 2 (w l2))) (s (d Bf [5,11,12,13,17,95,166]) .ret)))))))))))
end MT
def MT:AFn:=⟨2,MT.c,[.tmp 4],false⟩
structure jv (L:Lib):Prop extends fo L,iy L,w8 L,z8 L where
 MT:L 367=some F.MT
end Go.c6.F
