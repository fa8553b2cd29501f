/-
  Functions of the program, as the abstract machine reads them (group RatG). Written by a program (gen.py) off the model's own reading of the translation; the seat's check ties them to it.
-/
import Derived.Test.YtplhdlbnneoobaaGreatB1
import Derived.Test.YtplhdlbnneoobaaGreatB3
set_option linter.unusedSimpArgs false
set_option linter.unusedVariables false
set_option linter.unnecessarySimpa false
namespace Go.c4.F
open C
namespace C5
def r0:=[o 4 (.alloc 83004 [(.bool false),.nil])]
def r1:=[m 5 0,m 6 5,g 7 6 true (.b7 1),g 8 6 true (.len 7),g 9 6 true (.bin .gtr 8 (k 0)),o 10 (.pick 6 9 (.c (.bool false))),m 11 1,
 o 12 (.build [(.bool false),.nil] [(0,1,10),(1,1,11)]),n (.st 2 4 12)]
def c:=(s (p r0) (s (d r1 [0,1,5,6,7,8,9,10,11,12]) .ret))
end C5
def C5:AFn:=⟨2,C5.c,[.cell 4 true 2],false⟩
namespace JS
def r0:=[o 1 (.box 1 0),o 2 (.alloc 2 [(.bool false),.nil])]
def r1:=[o 3 (.a5 1 0),o 4 (.ld false 1 3),o 5 (.a5 1 1),o 6 (.ld false 1 5),o 7 (.call 66 [6]),o 8 (.g6 83 [4,7]),n (.st 2 2 8)]
def c:=(s (d r0 [0]) (s (e r1 [1,3,4,5,6,7,8]) .ret))
end JS
def JS:AFn:=⟨1,JS.c,[.cell 2 true 2],false⟩
namespace JQ
def r0:=[o 2 (.alloc 2 [(.bool false),.nil])]
def r1:=[m 4 0,o 5 (.conv .u64 4),m 3 5]
def r2:=[m 6 0,o 7 (.bin .lss 6 (k 0))]
def r3:=[m 8 3,o 9 (.un .neg 8),m 3 9]
def r4:=[m 10 0,o 11 (.bin .lss 10 (k 0)),m 12 3,o 13 (.conv .u32 12),m 14 3,o 15 (.bin .shr 14 (.c (.int .u64 (32)))),o 16 (.conv .u32 15),
 o 17 (.c9 17 1 [13,16]),o 18 (.call 66 [17]),o 19 (.g6 83 [11,18]),n (.st 2 2 19)]
def c:=(s (p r0) (s (d r1 [4,5]) (s (s (d r2 [6]) (i 7 (d r3 [7,8,9]) .skip)) (s (d r4 [0,3,7,10,11,12,13,14,15,16,17,18,19]) .ret))))
end JQ
def JQ:AFn:=⟨1,JQ.c,[.cell 2 true 2],false⟩
namespace JR
def r0:=[o 1 (.box 1 0),o 2 (.b7 (k 0))]
def r1:=[o 4 (.a5 1 1),o 5 (.ld false 1 4),o 6 (.call 67 [5,(.c .nil)]),o 7 (.bin .eql 6 (k 0)),m 3 7]
def r2:=[o 2 (.b7 (k 0))]
def r3:=[o 9 (.a5 1 0),o 10 (.ld false 1 9),m 8 10]
def r4:=[o 2 (.b7 (k (-1)))]
def r5:=[o 2 (.b7 (k 1))]
def c:=(s (d r0 [0,2]) (s (b 0 (s (d r1 [4,5,6,7]) (i 3 (s (d r2 [1,3]) .ret) (s (d r3 [1,3,9,10]) (i 8 (s (d r4 [8]) .ret) .skip))))) (s (d r5 [8]) .ret)))
end JR
def JR:AFn:=⟨1,JR.c,[.tmp 2],false⟩
namespace JN
def r0:=[o 2 (.box 2 0),o 3 (.box 3 1),o 4 (.alloc 4 [(.bool false),.nil])]
def r1:=[o 5 (.a5 2 0),o 6 (.ld false 1 5),o 7 (.a5 3 0),o 8 (.ld false 1 7),o 9 (.beq false 6 8)]
def r2:=[o 10 (.a5 2 0),o 11 (.ld false 1 10),o 12 (.a5 2 1),o 13 (.ld false 1 12),o 14 (.a5 3 1),o 15 (.ld false 1 14),o 16 (.call 68 [13,15]),
 o 17 (.g6 83 [11,16]),n (.st 2 4 17)]
def r3:=[o 18 (.a5 2 1),o 19 (.ld false 1 18),o 20 (.a5 3 1),o 21 (.ld false 1 20),o 22 (.call 67 [19,21]),o 23 (.bin .eql 22 (k (-1)))]
def r4:=[o 24 (.a5 3 0),o 25 (.ld false 1 24),o 26 (.a5 3 1),o 27 (.ld false 1 26),o 28 (.a5 2 1),o 29 (.ld false 1 28),o 30 (.call 69 [27,29]),
 o 31 (.g6 83 [25,30]),n (.st 2 4 31)]
def r5:=[o 32 (.a5 2 0),o 33 (.ld false 1 32),o 34 (.a5 2 1),o 35 (.ld false 1 34),o 36 (.a5 3 1),o 37 (.ld false 1 36),o 38 (.call 69 [35,37]),
 o 39 (.g6 83 [33,38]),n (.st 2 4 39)]
def c:=(s (d r0 [0,1]) (s (s (d r1 [5,6,7,8]) (i 9 (s (e r2 [2,3,9,10,11,12,13,14,15,16,17]) .ret) .skip)) (s (s (d r3 [9,18,19,20,21,22]) (i 23 (s (e r4 [2,3,23,24,25,26,27,28,29,30,31]) .ret) .skip)) (s (e r5 [2,3,23,32,33,34,35,36,37,38,39]) .ret))))
end JN
def JN:AFn:=⟨2,JN.c,[.cell 4 true 2],false⟩
namespace JP
def r0:=[o 2 (.box 2 0),o 3 (.box 3 1),o 4 (.alloc 4 [(.bool false),.nil])]
def r1:=[o 5 (.a5 2 0),o 6 (.ld false 1 5),o 7 (.a5 3 0),o 8 (.ld false 1 7),o 9 (.beq true 6 8),o 10 (.a5 2 1),o 11 (.ld false 1 10),o 12 (.a5 3 1),
 o 13 (.ld false 1 12),o 14 (.call 70 [11,13]),o 15 (.g6 83 [9,14]),n (.st 2 4 15)]
def c:=(s (d r0 [0,1]) (s (e r1 [2,3,5,6,7,8,9,10,11,12,13,14,15]) .ret))
end JP
def JP:AFn:=⟨2,JP.c,[.cell 4 true 2],false⟩
namespace HQ
def r0:=[o 1 (.box 1 0),o 2 (.alloc 2 [(.bool false),.nil,.nil,(.bool false)])]
def r1:=[o 3 (.a5 1 2),o 4 (.ld false 1 3),o 5 (.len 4),o 6 (.bin .eql 5 (k 1)),m 7 6,g 8 7 true (.a5 1 2),g 9 7 true (.ld false 1 8),
 g 10 7 true (.a9 none 1 9 (k 0)),g 11 7 true (.ld false 1 10),g 12 7 true (.bin .eql 11 (.c (.int .u32 (1)))),o 13 (.pick 7 12 (.c (.bool false)))]
def r2:=[o 14 (.a5 1 0),o 15 (.ld true 2 14),o 16 (.a5 1 2),o 17 (.ld false 1 16),o 18 (.build [(.bool false),.nil,.nil] [(0,2,15),(2,1,17)]),
 o 19 (.build [(.bool false),.nil,.nil,(.bool false)] [(0,3,18),(3,1,(.c (.bool true)))]),n (.st 4 2 19)]
def r3:=[o 20 (.a5 1 2),o 21 (.ld false 1 20),o 22 (.call 67 [21,(.c .nil)]),o 23 (.bin .eql 22 (k 0))]
def r4:=[o 24 (.build [(.bool false),.nil] []),o 25 (.c9 25 1 [(.c (.int .u32 (1)))]),o 26 (.build [(.bool false),.nil,.nil] [(0,2,24),(2,1,25)]),
 o 27 (.build [(.bool false),.nil,.nil,(.bool false)] [(0,3,26),(3,1,(.c (.bool true)))]),n (.st 4 2 27)]
def r5:=[o 28 (.a5 1 0),o 29 (.ld true 2 28),o 30 (.a5 1 2),o 31 (.ld false 1 30),o 32 (.build [(.bool false),.nil,.nil] [(0,2,29),(2,1,31)]),
 o 33 (.build [(.bool false),.nil,.nil,(.bool false)] [(0,3,32),(3,1,(.c (.bool false)))]),n (.st 4 2 33)]
def c:=(s (d r0 [0]) (s (s (d r1 [3,4,5,6,7,8,9,10,11,12]) (i 13 (s (d r2 [1,13,14,15,16,17,18,19]) .ret) .skip)) (s (s (d r3 [13,20,21,22]) (i 23 (s (d r4 [1,23,24,25,26,27]) .ret) .skip)) (s (d r5 [1,23,28,29,30,31,32,33]) .ret))))
end HQ
def HQ:AFn:=⟨1,HQ.c,[.cell 2 true 4],false⟩
namespace K8
def r0:=[o 2 (.b7 (.c (.bool false)))]
def r1:=[m 3 0,o 4 (.len 3),o 5 (.bin .eql 4 (k 1)),m 6 5,g 7 6 true (.b7 0),g 8 6 true (.a9 none 1 7 (k 0)),g 9 6 true (.ld false 1 8),
 g 10 6 true (.bin .eql 9 (.c (.int .u32 (1)))),o 11 (.pick 6 10 (.c (.bool false))),m 2 11]
def c:=(s (d r0 [2]) (s (d r1 [0,3,4,5,6,7,8,9,10,11]) .ret))
end K8
def K8:AFn:=⟨1,K8.c,[.tmp 2],false⟩
namespace K9
def r0:=[o 2 (.alloc 2 [(.bool false),.nil])]
def r1:=[m 3 0,o 4 (.build [(.bool false),.nil] [(1,1,3)]),n (.st 2 2 4)]
def c:=(s (p r0) (s (d r1 [0,3,4]) .ret))
end K9
def K9:AFn:=⟨1,K9.c,[.cell 2 true 2],false⟩
namespace GT
def r0:=[o 1 (.box 92001 0),o 2 (.alloc 92002 [(.bool false),.nil,.nil])]
def r1:=[o 3 (.ld true 2 1),o 4 (.c9 92004 1 [(.c (.int .u32 (1)))]),o 5 (.build [(.bool false),.nil,.nil] [(0,2,3),(2,1,4)]),n (.st 3 2 5)]
def c:=(s (d r0 [0]) (s (d r1 [1,3,4,5]) .ret))
end GT
def GT:AFn:=⟨1,GT.c,[.cell 2 true 3],false⟩
namespace LB
def r0:=[o 2 (.box 93002 0),o 3 (.box 93003 1),o 4 (.alloc 93004 [(.bool false),.nil,.nil])]
def r1:=[o 5 (.a5 2 0),o 6 (.ld false 1 5),o 7 (.a5 3 0),o 8 (.ld false 1 7),o 9 (.beq true 6 8),o 10 (.a5 2 1),o 11 (.ld false 1 10),
 o 12 (.build [(.bool false),.nil] [(0,1,9),(1,1,11)]),o 13 (.a5 3 1),o 14 (.ld false 1 13),
 o 15 (.build [(.bool false),.nil,.nil] [(0,2,12),(2,1,14)]),n (.st 3 4 15)]
def c:=(s (d r0 [0,1]) (s (d r1 [2,3,5,6,7,8,9,10,11,12,13,14,15]) .ret))
end LB
def LB:AFn:=⟨2,LB.c,[.cell 4 true 3],false⟩
namespace LA
def r0:=[o 1 (.box 1 0),o 2 (.alloc 2 [(.bool false),.nil,.nil])]
def r1:=[o 14 (.a5 1 0),o 15 (.a5 14 1),o 16 (.ld false 1 15),o 17 (.a5 1 2),o 18 (.ld false 1 17),o 19 (.call 75 [16,18]),m 13 19,o 20 (.ext 13 0),
 o 21 (.ext 13 1),o 22 (.ext 13 2),m 3 20,m 4 21,m 5 22]
def r2:=[m 23 4,o 24 (.len 23),o 25 (.bin .eql 24 (k 0))]
def r3:=[o 26 (.a5 1 0),o 27 (.a5 26 0),o 28 (.ld false 1 27),m 29 3,o 30 (.build [(.bool false),.nil] [(0,1,28),(1,1,29)]),o 31 (.call 84 [30]),
 o 32 (.g6 92 [31]),n (.st 3 2 32)]
def r4:=[o 33 (.a5 1 2),o 34 (.ld false 1 33),m 35 4,o 36 (.call 82 [34,35]),m 6 36]
def r5:=[m 37 6,o 38 (.call 90 [37])]
def r6:=[o 39 (.a5 1 0),o 40 (.ld true 2 39),o 41 (.call 84 [40]),o 42 (.a5 1 2),o 43 (.ld false 1 42),o 44 (.call 66 [43]),
 o 45 (.build [(.bool false),.nil,.nil] [(0,2,41),(2,1,44)]),n (.st 3 2 45)]
def r7:=[o 47 (.a5 1 0),o 48 (.a5 47 1),o 49 (.ld false 1 48),m 50 6,o 51 (.call 75 [49,50]),m 46 51,o 52 (.ext 46 0),o 53 (.ext 46 1),o 54 (.ext 46 2),
 m 7 52,m 8 53,m 9 54]
def r8:=[o 56 (.a5 1 2),o 57 (.ld false 1 56),m 58 6,o 59 (.call 75 [57,58]),m 55 59,o 60 (.ext 55 0),o 61 (.ext 55 1),o 62 (.ext 55 2),m 10 60,m 11 61,
 m 12 62]
def r9:=[o 63 (.a5 1 0),o 64 (.a5 63 0),o 65 (.ld false 1 64),m 66 7,o 67 (.build [(.bool false),.nil] [(0,1,65),(1,1,66)]),m 68 10,
 o 69 (.build [(.bool false),.nil,.nil] [(0,2,67),(2,1,68)]),n (.st 3 2 69)]
def c:=(s (d r0 [0]) (s (d r1 [5,13,14,15,16,17,18,19,20,21,22]) (s (s (d r2 [23,24]) (i 25 (s (d r3 [1,3,4,25,26,27,28,29,30,31,32]) .ret) .skip)) (s (d r4 [3,4,25,33,34,35,36]) (s (s (d r5 [37]) (i 38 (s (e r6 [1,6,38,39,40,41,42,43,44,45]) .ret) .skip)) (s (d r7 [8,9,38,46,47,48,49,50,51,52,53,54]) (s (d r8 [6,11,12,55,56,57,58,59,60,61,62]) (s (d r9 [1,7,10,63,64,65,66,67,68,69]) .ret))))))))
end LA
def LA:AFn:=⟨1,LA.c,[.cell 2 true 3],false⟩
namespace K6
def r0:=[o 1 (.box 1 0),o 2 (.alloc 2 [(.bool false),.nil,.nil])]
def r1:=[o 3 (.ld true 3 1),o 4 (.k9 89 [3]),o 5 (.ja 4 0 3 true),o 6 (.call 94 [5]),n (.st 3 2 6)]
def c:=(s (d r0 [0]) (s (d r1 [1,3,4,5,6]) .ret))
end K6
def K6:AFn:=⟨1,K6.c,[.cell 2 true 3],false⟩
namespace K3
def r0:=[o 2 (.alloc 2 [(.bool false),.nil,.nil])]
def r1:=[m 3 0,o 4 (.call 85 [3]),o 5 (.g6 92 [4]),n (.st 3 2 5)]
def c:=(s (p r0) (s (d r1 [0,3,4,5]) .ret))
end K3
def K3:AFn:=⟨1,K3.c,[.cell 2 true 3],false⟩
namespace K4
def r0:=[o 1 (.box 1 0),o 2 (.b7 (k 0))]
def r1:=[o 3 (.ld true 3 1),o 4 (.k9 89 [3]),o 5 (.ja 4 0 3 true),o 6 (.ja 5 0 2 true),o 7 (.call 86 [6]),m 2 7]
def c:=(s (d r0 [0,2]) (s (d r1 [1,3,4,5,6,7]) .ret))
end K4
def K4:AFn:=⟨1,K4.c,[.tmp 2],false⟩
namespace HP
def r0:=[o 2 (.box 2 0),o 3 (.box 3 1),o 4 (.alloc 4 [(.bool false),.nil,.nil])]
def r1:=[q 8 [5,6] (.ld true 3 2),q 9 [5,6] (.k9 89 [8]),q 10 [5,6] (.ld true 3 3),q 11 [5,6] (.k9 89 [10]),
 o 5 (.alloc 5 [(.bool false),.nil,.nil,(.bool false)]),o 6 (.alloc 6 [(.bool false),.nil,.nil,(.bool false)]),n (.st 4 5 9),n (.st 4 6 11)]
def r2:=[o 12 (.a5 5 3),o 13 (.ld false 1 12),m 14 13,g 15 14 true (.a5 6 3),g 16 14 true (.ld false 1 15),o 17 (.pick 14 16 (.c (.bool false)))]
def r3:=[o 18 (.a5 5 0),o 19 (.a5 18 0),o 20 (.ld true 2 19),o 21 (.a5 6 0),o 22 (.a5 21 0),o 23 (.ld true 2 22),o 24 (.call 87 [20,23]),
 o 25 (.g6 92 [24]),n (.st 3 4 25)]
def r4:=[o 26 (.a5 5 0),o 27 (.a5 26 2),o 28 (.ld false 1 27),o 29 (.a5 6 0),o 30 (.a5 29 2),o 31 (.ld false 1 30),o 32 (.call 67 [28,31]),
 o 33 (.bin .eql 32 (k 0))]
def r5:=[o 34 (.a5 5 0),o 35 (.a5 34 0),o 36 (.ld true 2 35),o 37 (.a5 6 0),o 38 (.a5 37 0),o 39 (.ld true 2 38),o 40 (.call 87 [36,39]),
 o 41 (.a5 5 0),o 42 (.a5 41 2),o 43 (.ld false 1 42),o 44 (.build [(.bool false),.nil,.nil] [(0,2,40),(2,1,43)]),o 45 (.call 94 [44]),
 n (.st 3 4 45)]
def r6:=[o 46 (.a5 5 0),o 47 (.a5 46 0),q 48 [7] (.ld true 2 47),o 49 (.a5 6 0),o 50 (.a5 49 2),q 51 [7] (.ld false 1 50),
 q 52 [7] (.k9 91 [51]),q 53 [7] (.call 88 [48,52]),o 54 (.a5 6 0),o 55 (.a5 54 0),q 56 [7] (.ld true 2 55),
 o 57 (.a5 5 0),o 58 (.a5 57 2),q 59 [7] (.ld false 1 58),q 60 [7] (.k9 91 [59]),q 61 [7] (.call 88 [56,60]),
 q 62 [7] (.call 87 [53,61]),o 7 (.alloc 7 [(.bool false),.nil]),n (.st 2 7 62)]
def r7:=[o 63 (.ld true 2 7),o 64 (.a5 5 0),o 65 (.a5 64 2),o 66 (.ld false 1 65),o 67 (.a5 6 0),o 68 (.a5 67 2),o 69 (.ld false 1 68),
 o 70 (.call 70 [66,69]),o 71 (.build [(.bool false),.nil,.nil] [(0,2,63),(2,1,70)]),o 72 (.call 94 [71]),n (.st 3 4 72)]
def c:=(s (d r0 [0,1]) (s (e r1 [2,3,8,9,10,11]) (s (s (d r2 [12,13,14,15,16]) (i 17 (s (d r3 [5,6,17,18,19,20,21,22,23,24,25]) .ret) .skip)) (s (s (d r4 [17,26,27,28,29,30,31,32]) (i 33 (s (e r5 [5,6,33,34,35,36,37,38,39,40,41,42,43,44,45]) .ret) .skip)) (s (e r6 [33,46,47,48,49,50,51,52,53,54,55,56,57,58,59,60,61,62]) (s (e r7 [5,6,7,63,64,65,66,67,68,69,70,71,72]) .ret))))))
end HP
def HP:AFn:=⟨2,HP.c,[.cell 4 true 3],false⟩
namespace IQ
def r0:=[o 2 (.box 2 0),o 3 (.box 3 1),o 4 (.alloc 4 [(.bool false),.nil,.nil])]
def r1:=[q 8 [5,6] (.ld true 3 2),q 9 [5,6] (.k9 89 [8]),q 10 [5,6] (.ld true 3 3),q 11 [5,6] (.k9 89 [10]),
 o 5 (.alloc 5 [(.bool false),.nil,.nil,(.bool false)]),o 6 (.alloc 6 [(.bool false),.nil,.nil,(.bool false)]),n (.st 4 5 9),n (.st 4 6 11)]
def r2:=[o 12 (.a5 5 0),o 13 (.a5 12 0),o 14 (.ld true 2 13),o 15 (.a5 6 0),o 16 (.a5 15 0),o 17 (.ld true 2 16),o 18 (.call 88 [14,17]),
 o 7 (.alloc 7 [(.bool false),.nil]),n (.st 2 7 18)]
def r3:=[o 19 (.a5 5 3),o 20 (.ld false 1 19),m 21 20,g 22 21 true (.a5 6 3),g 23 21 true (.ld false 1 22),o 24 (.pick 21 23 (.c (.bool false)))]
def r4:=[o 25 (.ld true 2 7),o 26 (.g6 92 [25]),n (.st 3 4 26)]
def r5:=[o 27 (.ld true 2 7),o 28 (.a5 5 0),o 29 (.a5 28 2),o 30 (.ld false 1 29),o 31 (.a5 6 0),o 32 (.a5 31 2),o 33 (.ld false 1 32),
 o 34 (.call 70 [30,33]),o 35 (.build [(.bool false),.nil,.nil] [(0,2,27),(2,1,34)]),o 36 (.call 94 [35]),n (.st 3 4 36)]
def c:=(s (d r0 [0,1]) (s (e r1 [2,3,8,9,10,11]) (s (d r2 [12,13,14,15,16,17,18]) (s (s (d r3 [19,20,21,22,23]) (i 24 (s (d r4 [5,6,7,24,25,26]) .ret) .skip)) (s (e r5 [5,6,7,24,27,28,29,30,31,32,33,34,35,36]) .ret)))))
end IQ
def IQ:AFn:=⟨2,IQ.c,[.cell 4 true 3],false⟩
namespace K1
def r0:=[o 2 (.box 2 0),o 3 (.box 3 1),o 4 (.alloc 4 [(.bool false),.nil,.nil]),o 5 (.b7 (k 0))]
def r1:=[q 10 [6,7] (.ld true 3 2),q 11 [6,7] (.k9 89 [10]),q 12 [6,7] (.ld true 3 3),q 13 [6,7] (.k9 89 [12]),
 o 6 (.alloc 6 [(.bool false),.nil,.nil,(.bool false)]),o 7 (.alloc 7 [(.bool false),.nil,.nil,(.bool false)]),n (.st 4 6 11),n (.st 4 7 13)]
def r2:=[o 14 (.a5 7 0),o 15 (.a5 14 0),o 16 (.ld true 2 15),o 17 (.call 86 [16]),o 18 (.bin .eql 17 (k 0))]
def r3:=[o 19 (.build [(.bool false),.nil,.nil] []),n (.st 3 4 19),o 5 (.b7 (k 3))]
def r4:=[o 20 (.a5 6 0),o 21 (.a5 20 0),q 22 [8] (.ld true 2 21),o 23 (.a5 7 0),o 24 (.a5 23 2),q 25 [8] (.ld false 1 24),
 q 26 [8] (.k9 91 [25]),q 27 [8] (.call 88 [22,26]),o 8 (.alloc 8 [(.bool false),.nil]),n (.st 2 8 27)]
def r5:=[o 28 (.a5 6 0),o 29 (.a5 28 2),q 30 [9] (.ld false 1 29),q 31 [9] (.k9 91 [30]),o 32 (.a5 7 0),o 33 (.a5 32 0),
 q 34 [9] (.ld true 2 33),q 35 [9] (.call 88 [31,34]),o 9 (.alloc 9 [(.bool false),.nil]),n (.st 2 9 35)]
def r6:=[o 36 (.ld true 2 8),o 37 (.ld true 2 9),o 38 (.g6 93 [36,37]),o 39 (.call 94 [38]),n (.st 3 4 39),o 5 (.b7 (k 0))]
def c:=(s (d r0 [0,1,5]) (s (e r1 [2,3,10,11,12,13]) (s (s (d r2 [14,15,16,17]) (i 18 (s (d r3 [6,7,18,19]) .ret) .skip)) (s (e r4 [18,20,21,22,23,24,25,26,27]) (s (e r5 [6,7,28,29,30,31,32,33,34,35]) (s (d r6 [8,9,36,37,38,39]) .ret))))))
end K1
def K1:AFn:=⟨2,K1.c,[.cell 4 true 3,.tmp 5],false⟩
structure a7 (L:Lib):Prop extends c5 L where
 C5:L 83=some F.C5
 JS:L 84=some F.JS
 JQ:L 85=some F.JQ
 JR:L 86=some F.JR
 JN:L 87=some F.JN
 JP:L 88=some F.JP
 HQ:L 89=some F.HQ
 K8:L 90=some F.K8
 K9:L 91=some F.K9
 GT:L 92=some F.GT
 LB:L 93=some F.LB
 LA:L 94=some F.LA
 K6:L 95=some F.K6
 K3:L 96=some F.K3
 K4:L 97=some F.K4
 HP:L 98=some F.HP
 IQ:L 99=some F.IQ
 K1:L 100=some F.K1
end Go.c4.F
namespace Go.c4.F
open C
namespace GU
def r0:=[o 2 (.b7 (.c .nil))]
def r1:=[m 4 0,o 5 (.len 4),m 3 5]
def r2:=[m 6 3,o 7 (.bin .gtr 6 (k 0)),m 8 7,g 9 8 true (.b7 0),g 10 8 true (.b7 3),g 11 8 true (.bin .sub 10 (k 1)),g 12 8 true (.a9 none 1 9 11),
 g 13 8 true (.ld false 1 12),g 14 8 true (.bin .eql 13 (.c (.int .u32 (0)))),o 15 (.pick 8 14 (.c (.bool false)))]
def r3:=[m 16 3,o 17 (.bin .sub 16 (k 1)),m 3 17]
def r4:=[m 18 0,m 19 3,o 20 (.dc 1 18 none (some 19)),o 21 (.app 101021 1 4 (.c .nil) 20),m 2 21]
def l1:=(s (s (d r2 [6,7,8,9,10,11,12,13,14]) (i 15 .skip (x 0))) (b 1 (d r3 [15,16,17])))
def c:=(s (d r0 [2]) (s (d r1 [4,5]) (s (b 0 (w l1)) (s (d r4 [0,3,15,18,19,20,21]) .ret))))
end GU
def GU:AFn:=⟨1,GU.c,[.tmp 2],false⟩
namespace LE
def r0:=[o 4 (.b7 (k 0))]
def r1:=[m 6 0,o 7 (.call 101 [6]),m 8 1,o 9 (.call 101 [8]),m 0 7,m 1 9]
def r2:=[m 10 0,o 11 (.len 10),m 12 1,o 13 (.len 12),o 14 (.bin .neq 11 13)]
def r3:=[m 15 0,o 16 (.len 15),m 17 1,o 18 (.len 17),o 19 (.bin .lss 16 18)]
def r4:=[o 4 (.b7 (k (-1)))]
def r5:=[o 4 (.b7 (k 1))]
def r6:=[m 20 0,o 21 (.len 20),o 22 (.bin .sub 21 (k 1)),m 5 22]
def r7:=[m 23 5,o 24 (.bin .geq 23 (k 0))]
def r9:=[m 27 0,m 28 5,o 29 (.a9 none 1 27 28),o 30 (.ld false 1 29),m 31 1,m 32 5,o 33 (.a9 none 1 31 32),o 34 (.ld false 1 33),o 35 (.bin .lss 30 34)]
def CE:=[o 4 (.b7 (k (-1)))]
def CI:=[m 36 0,m 37 5,o 38 (.a9 none 1 36 37),o 39 (.ld false 1 38),m 40 1,m 41 5,o 42 (.a9 none 1 40 41),o 43 (.ld false 1 42),o 44 (.bin .gtr 39 43)]
def u9:=[o 4 (.b7 (k 1))]
def r8:=[m 25 5,o 26 (.bin .sub 25 (k 1)),m 5 26]
def DH:=[o 4 (.b7 (k 0))]
def l1:=(s (s (d r7 [23]) (i 24 .skip (x 0))) (s (b 1 (s (s (e r9 [24,27,28,29,30,31,32,33,34]) (i 35 (s (d CE [0,1,5,35]) .ret) .skip)) (s (e CI [35,36,37,38,39,40,41,42,43]) (i 44 (s (d u9 [0,1,5,44]) .ret) .skip)))) (d r8 [25,26,44])))
def c:=(s (d r0 [4]) (s (d r1 [6,7,8,9]) (s (s (d r2 [10,11,12,13]) (i 14 (s (s (d r3 [0,1,14,15,16,17,18]) (i 19 (s (d r4 [19]) .ret) .skip)) (s (d r5 [19]) .ret)) .skip)) (s (s (d r6 [14,20,21,22]) (b 0 (w l1))) (s (d DH [0,1,5,24]) .ret)))))
end LE
def LE:AFn:=⟨2,LE.c,[.tmp 4],false⟩
namespace LC
def r0:=[o 4 (.b7 (.c .nil))]
def r1:=[o 5 (.w9 5 1)]
def r2:=[o 6 (.b7 (.c (.int .u64 (0))))]
def r3:=[o 7 (.b7 (k 0))]
def r4:=[m 8 7,m 9 0,o 10 (.len 9),o 11 (.bin .lss 8 10),m 12 11,g 13 12 false (.b7 7),g 14 12 false (.b7 1),g 15 12 false (.len 14),
 g 16 12 false (.bin .lss 13 15),o 17 (.pick 12 (.c (.bool true)) 16)]
def r6:=[m 20 7,m 21 0,o 22 (.len 21),o 23 (.bin .lss 20 22)]
def r7:=[m 24 6,m 25 0,m 26 7,o 27 (.a9 none 1 25 26),o 28 (.ld false 1 27),o 29 (.conv .u64 28),o 30 (.bin .add 24 29),m 6 30]
def r8:=[m 31 7,m 32 1,o 33 (.len 32),o 34 (.bin .lss 31 33)]
def r9:=[m 35 6,m 36 1,m 37 7,o 38 (.a9 none 1 36 37),o 39 (.ld false 1 38),o 40 (.conv .u64 39),o 41 (.bin .add 35 40),m 6 41]
def CE:=[m 42 5,m 43 6,o 44 (.conv .u32 43),o 45 (.c9 45 1 [44]),o 46 (.app 46 1 4 42 45),m 5 46]
def CI:=[m 47 6,o 48 (.bin .shr 47 (.c (.int .u64 (32)))),m 6 48]
def r5:=[m 18 7,o 19 (.bin .add 18 (k 1)),m 7 19]
def u9:=[m 49 5,m 50 6,o 51 (.conv .u32 50),o 52 (.c9 52 1 [51]),o 53 (.app 53 1 4 49 52),o 54 (.call 101 [53]),m 4 54]
def l1:=(s (s (d r4 [8,9,10,11,12,13,14,15,16]) (i 17 .skip (x 0))) (s (b 1 (s (s (d r6 [17,20,21,22]) (i 23 (d r7 [23,24,25,26,27,28,29,30]) .skip)) (s (s (d r8 [23,31,32,33]) (i 34 (d r9 [34,35,36,37,38,39,40,41]) .skip)) (s (d CE [34,42,43,44,45,46]) (d CI [47,48]))))) (d r5 [18,19])))
def c:=(s (d r0 [4]) (s (p r1) (s (p r2) (s (s (p r3) (b 0 (w l1))) (s (d u9 [0,1,5,6,7,17,49,50,51,52,53,54]) .ret)))))
end LC
def LC:AFn:=⟨2,LC.c,[.tmp 4],false⟩
namespace H7
def r0:=[o 4 (.b7 (.c .nil))]
def r1:=[m 10 0,m 11 1,o 12 (.call 102 [10,11]),o 13 (.bin .lss 12 (k 0))]
def r2:=[o 4 (.b7 (.c .nil))]
def r3:=[m 14 1,o 15 (.call 101 [14]),m 1 15]
def r4:=[m 16 0,o 17 (.g6 101 [16]),m 5 17]
def r5:=[o 6 (.b7 (.c (.int .u64 (0))))]
def r6:=[o 7 (.b7 (k 0))]
def r7:=[m 18 7,m 19 5,o 20 (.len 19),o 21 (.bin .lss 18 20)]
def r9:=[m 24 6,m 8 24]
def CE:=[m 25 7,m 26 1,o 27 (.len 26),o 28 (.bin .lss 25 27)]
def CI:=[m 29 8,m 30 1,m 31 7,o 32 (.a9 none 1 30 31),o 33 (.ld false 1 32),o 34 (.conv .u64 33),o 35 (.bin .add 29 34),m 8 35]
def u9:=[m 36 5,m 37 7,o 38 (.a9 none 1 36 37),o 39 (.ld false 1 38),o 40 (.conv .u64 39),m 9 40]
def DH:=[o 6 (.b7 (.c (.int .u64 (0))))]
def br:=[m 41 9,m 42 8,o 43 (.bin .lss 41 42)]
def db:=[m 44 9,o 45 (.bin .add 44 (.c (.int .u64 (4294967296)))),m 9 45]
def fg:=[o 6 (.b7 (.c (.int .u64 (1))))]
def F4:=[m 46 5,m 47 7,m 48 9,m 49 8,o 50 (.bin .sub 48 49),o 51 (.conv .u32 50),o 52 (.a9 none 1 46 47),n (.st 1 52 51)]
def r8:=[m 22 7,o 23 (.bin .add 22 (k 1)),m 7 23]
def fw:=[m 53 5,o 54 (.call 101 [53]),m 4 54]
def l1:=(s (s (d r7 [18,19,20]) (i 21 .skip (x 0))) (s (b 1 (s (d r9 [6,21,24]) (s (s (d CE [25,26,27]) (i 28 (d CI [28,29,30,31,32,33,34,35]) .skip)) (s (d u9 [28,36,37,38,39,40]) (s (p DH) (s (s (d br [41,42]) (i 43 (s (d db [6,43,44,45]) (p fg)) .skip)) (d F4 [8,9,43,46,47,48,49,50,51,52]))))))) (d r8 [22,23])))
def c:=(s (d r0 [4]) (s (s (d r1 [10,11,12]) (i 13 (s (d r2 [0,1,13]) .ret) .skip)) (s (d r3 [13,14,15]) (s (d r4 [0,16,17]) (s (p r5) (s (s (p r6) (b 0 (w l1))) (s (d fw [1,5,6,7,21,53,54]) .ret)))))))
end H7
def H7:AFn:=⟨2,H7.c,[.tmp 4],false⟩
namespace LG
def r0:=[o 4 (.b7 (.c .nil))]
def r1:=[m 9 0,o 10 (.len 9),m 11 1,o 12 (.len 11),o 13 (.bin .add 10 12),o 14 (.bin .add 13 (k 1)),o 15 (.mk 15 1 4 [(.int .u32 (0))] 14 14),m 5 15]
def r2:=[o 6 (.b7 (k 0))]
def r3:=[m 16 6,m 17 0,o 18 (.len 17),o 19 (.bin .lss 16 18)]
def r5:=[o 7 (.b7 (.c (.int .u64 (0))))]
def r6:=[o 8 (.b7 (k 0))]
def r7:=[m 22 8,m 23 1,o 24 (.len 23),o 25 (.bin .lss 22 24)]
def r9:=[m 28 7,m 29 0,m 30 6,o 31 (.a9 none 1 29 30),o 32 (.ld false 1 31),o 33 (.conv .u64 32),m 34 1,m 35 8,o 36 (.a9 none 1 34 35),
 o 37 (.ld false 1 36),o 38 (.conv .u64 37),o 39 (.bin .mul 33 38),m 40 5,m 41 6,m 42 8,o 43 (.bin .add 41 42),o 44 (.a9 none 1 40 43),
 o 45 (.ld false 1 44),o 46 (.conv .u64 45),o 47 (.bin .add 39 46),o 48 (.bin .add 28 47),m 7 48]
def CE:=[m 49 5,m 50 6,m 51 8,o 52 (.bin .add 50 51),m 53 7,o 54 (.conv .u32 53),o 55 (.a9 none 1 49 52),n (.st 1 55 54)]
def CI:=[m 56 7,o 57 (.bin .shr 56 (.c (.int .u64 (32)))),m 7 57]
def r8:=[m 26 8,o 27 (.bin .add 26 (k 1)),m 8 27]
def u9:=[m 58 5,m 59 6,m 60 1,o 61 (.len 60),o 62 (.bin .add 59 61),m 63 7,o 64 (.conv .u32 63),o 65 (.a9 none 1 58 62),n (.st 1 65 64)]
def r4:=[m 20 6,o 21 (.bin .add 20 (k 1)),m 6 21]
def DH:=[m 66 5,o 67 (.call 101 [66]),m 4 67]
def l2:=(s (s (d r7 [22,23,24]) (i 25 .skip (x 2))) (s (b 3 (s (e r9 [25,28,29,30,31,32,33,34,35,36,37,38,39,40,41,42,43,44,45,46,47,48]) (s (d CE [49,50,51,52,53,54,55]) (d CI [56,57])))) (d r8 [26,27])))
def l1:=(s (s (d r3 [16,17,18]) (i 19 .skip (x 0))) (s (b 1 (s (d r5 [19]) (s (s (p r6) (b 2 (w l2))) (d u9 [7,8,25,58,59,60,61,62,63,64,65])))) (d r4 [20,21])))
def c:=(s (d r0 [4]) (s (d r1 [9,10,11,12,13,14,15]) (s (s (p r2) (b 0 (w l1))) (s (d DH [0,1,5,6,19,66,67]) .ret))))
end LG
def LG:AFn:=⟨2,LG.c,[.tmp 4],false⟩
namespace LD
def r0:=[o 2 (.b7 (k 0))]
def r1:=[m 5 0,o 6 (.call 101 [5]),m 0 6]
def r2:=[m 7 0,o 8 (.len 7),o 9 (.bin .eql 8 (k 0))]
def r3:=[o 2 (.b7 (k 0))]
def r4:=[m 10 0,o 11 (.len 10),o 12 (.bin .sub 11 (k 1)),o 13 (.bin .mul (k 32) 12),m 3 13]
def r5:=[m 14 0,m 15 0,o 16 (.len 15),o 17 (.bin .sub 16 (k 1)),o 18 (.a9 none 1 14 17),o 19 (.ld false 1 18),m 4 19]
def r6:=[m 20 4,o 21 (.bin .gtr 20 (.c (.int .u32 (0))))]
def r8:=[m 24 3,o 25 (.bin .add 24 (k 1)),m 3 25]
def r7:=[m 22 4,o 23 (.bin .shr 22 (.c (.int .u64 (1)))),m 4 23]
def r9:=[m 26 3,m 2 26]
def l1:=(s (s (d r6 [20]) (i 21 .skip (x 0))) (s (b 1 (d r8 [21,24,25])) (d r7 [22,23])))
def c:=(s (d r0 [2]) (s (d r1 [5,6]) (s (s (d r2 [7,8]) (i 9 (s (d r3 [0,9]) .ret) .skip)) (s (d r4 [9,10,11,12,13]) (s (s (d r5 [0,14,15,16,17,18,19]) (b 0 (w l1))) (s (d r9 [3,4,21,26]) .ret))))))
end LD
def LD:AFn:=⟨1,LD.c,[.tmp 2],false⟩
namespace HR
def r0:=[o 4 (.b7 (.c .nil))]
def r1:=[m 11 0,o 12 (.call 101 [11]),m 0 12]
def r2:=[m 13 1,o 14 (.bin .gtr 13 (k 65536)),m 15 14,g 16 15 false (.b7 0),g 17 15 false (.len 16),g 18 15 false (.bin .eql 17 (k 0)),
 o 19 (.pick 15 (.c (.bool true)) 18)]
def r3:=[o 4 (.b7 (.c .nil))]
def r4:=[m 20 1,o 21 (.bin .lss 20 (k 0))]
def r5:=[m 22 1,m 23 0,o 24 (.len 23),o 25 (.bin .mul (k (-32)) 24),o 26 (.bin .lss 22 25)]
def r6:=[o 4 (.b7 (.c .nil))]
def r7:=[m 27 1,o 28 (.un .neg 27),m 1 28]
def r8:=[o 5 (.w9 107005 1)]
def r9:=[m 29 1,o 30 (.bin .quo 29 (k 32)),m 6 30]
def CE:=[m 31 6,m 32 0,o 33 (.len 32),o 34 (.bin .lss 31 33)]
def u9:=[m 37 0,m 38 6,o 39 (.a9 none 1 37 38),o 40 (.ld false 1 39),o 41 (.conv .u64 40),m 7 41]
def DH:=[m 42 6,o 43 (.bin .add 42 (k 1)),m 44 0,o 45 (.len 44),o 46 (.bin .lss 43 45)]
def br:=[m 47 7,m 48 0,m 49 6,o 50 (.bin .add 49 (k 1)),o 51 (.a9 none 1 48 50),o 52 (.ld false 1 51),o 53 (.conv .u64 52),
 o 54 (.bin .shl 53 (.c (.int .u64 (32)))),o 55 (.bin .or 47 54),m 7 55]
def db:=[m 56 5,m 57 7,m 58 1,o 59 (.bin .rem 58 (k 32)),o 60 (.conv .u64 59),o 61 (.bin .shr 57 60),o 62 (.conv .u32 61),o 63 (.c9 107063 1 [62]),
 o 64 (.app 107064 1 4 56 63),m 5 64]
def CI:=[m 35 6,o 36 (.bin .add 35 (k 1)),m 6 36]
def fg:=[m 65 5,o 66 (.call 101 [65]),m 4 66]
def F4:=[m 67 1,o 68 (.bin .quo 67 (k 32)),o 69 (.mk 107069 1 4 [(.int .u32 (0))] 68 68),m 8 69]
def fw:=[o 9 (.b7 (.c (.int .u64 (0))))]
def jj:=[o 10 (.b7 (k 0))]
def mb:=[m 70 10,m 71 0,o 72 (.len 71),o 73 (.bin .lss 70 72)]
def np:=[m 76 9,m 77 0,m 78 10,o 79 (.a9 none 1 77 78),o 80 (.ld false 1 79),o 81 (.conv .u64 80),m 82 1,o 83 (.bin .rem 82 (k 32)),o 84 (.conv .u64 83),
 o 85 (.bin .shl 81 84),o 86 (.bin .or 76 85),m 9 86]
def nq:=[m 87 8,m 88 9,o 89 (.conv .u32 88),o 90 (.c9 107090 1 [89]),o 91 (.app 107091 1 4 87 90),m 8 91]
def NW:=[m 92 9,o 93 (.bin .shr 92 (.c (.int .u64 (32)))),m 9 93]
def nn:=[m 74 10,o 75 (.bin .add 74 (k 1)),m 10 75]
def P2:=[m 94 8,m 95 9,o 96 (.conv .u32 95),o 97 (.c9 107097 1 [96]),o 98 (.app 107098 1 4 94 97),o 99 (.g6 101 [98]),m 4 99]
def l1:=(s (s (d CE [31,32,33]) (i 34 .skip (x 0))) (s (b 1 (s (d u9 [34,37,38,39,40,41]) (s (s (d DH [42,43,44,45]) (i 46 (d br [46,47,48,49,50,51,52,53,54,55]) .skip)) (d db [7,46,56,57,58,59,60,61,62,63,64])))) (d CI [35,36])))
def l2:=(s (s (d mb [70,71,72]) (i 73 .skip (x 2))) (s (b 3 (s (d np [73,76,77,78,79,80,81,82,83,84,85,86]) (s (d nq [87,88,89,90,91]) (d NW [92,93])))) (d nn [74,75])))
def c:=(s (d r0 [4]) (s (d r1 [11,12]) (s (s (d r2 [13,14,15,16,17,18]) (i 19 (s (d r3 [0,1,19]) .ret) .skip)) (s (s (d r4 [19,20]) (i 21 (s (s (d r5 [21,22,23,24,25]) (i 26 (s (d r6 [0,1,26]) .ret) .skip)) (s (d r7 [26,27,28]) (s (p r8) (s (s (d r9 [29,30]) (b 0 (w l1))) (s (d fg [0,1,5,6,34,65,66]) .ret))))) .skip)) (s (d F4 [21,67,68,69]) (s (p fw) (s (s (p jj) (b 2 (w l2))) (s (d P2 [0,1,8,9,10,73,94,95,96,97,98,99]) .ret))))))))
end HR
def HR:AFn:=⟨2,HR.c,[.tmp 4],false⟩
namespace LH
def r0:=[o 4 (.b7 (.c .nil)),o 5 (.b7 (.c (.int .u32 (0))))]
def r1:=[m 9 0,o 10 (.len 9),o 11 (.mk 11 1 4 [(.int .u32 (0))] 10 10),m 6 11]
def r2:=[o 7 (.b7 (.c (.int .u64 (0))))]
def r3:=[m 12 0,o 13 (.len 12),o 14 (.bin .sub 13 (k 1)),m 8 14]
def r4:=[m 15 8,o 16 (.bin .geq 15 (k 0))]
def r6:=[m 19 7,o 20 (.bin .shl 19 (.c (.int .u64 (32)))),m 21 0,m 22 8,o 23 (.a9 none 1 21 22),o 24 (.ld false 1 23),o 25 (.conv .u64 24),
 o 26 (.bin .or 20 25),m 7 26]
def r7:=[m 27 6,m 28 8,m 29 7,m 30 1,o 31 (.conv .u64 30),o 32 (.bin .quo 29 31),o 33 (.conv .u32 32),o 34 (.a9 none 1 27 28),n (.st 1 34 33)]
def r8:=[m 35 7,m 36 1,o 37 (.conv .u64 36),o 38 (.bin .rem 35 37),m 7 38]
def r5:=[m 17 8,o 18 (.bin .sub 17 (k 1)),m 8 18]
def r9:=[m 39 6,o 40 (.call 101 [39]),m 41 7,o 42 (.conv .u32 41),m 4 40,m 5 42]
def l1:=(s (s (d r4 [15]) (i 16 .skip (x 0))) (s (b 1 (s (d r6 [16,19,20,21,22,23,24,25,26]) (s (d r7 [27,28,29,30,31,32,33,34]) (d r8 [35,36,37,38])))) (d r5 [17,18])))
def c:=(s (d r0 [4,5]) (s (d r1 [9,10,11]) (s (p r2) (s (s (d r3 [12,13,14]) (b 0 (w l1))) (s (d r9 [0,1,6,7,8,16,39,40,41,42]) .ret)))))
end LH
def LH:AFn:=⟨2,LH.c,[.tmp 4,.tmp 5],false⟩
namespace DI
def r0:=[o 4 (.b7 (.c .nil)),o 5 (.b7 (.c .nil)),o 6 (.b7 (k 0))]
def r1:=[m 27 0,o 28 (.call 101 [27]),m 29 1,o 30 (.call 101 [29]),m 0 28,m 1 30]
def r2:=[m 31 1,o 32 (.len 31),o 33 (.bin .eql 32 (k 0))]
def r3:=[o 4 (.b7 (.c .nil)),o 5 (.b7 (.c .nil)),o 6 (.b7 (k 3))]
def r4:=[m 34 1,o 35 (.len 34),o 36 (.bin .eql 35 (k 1))]
def r5:=[m 38 0,m 39 1,o 40 (.a9 none 1 39 (k 0)),o 41 (.ld false 1 40),o 42 (.call 108 [38,41]),m 37 42,o 43 (.ext 37 0),o 44 (.ext 37 1),m 7 43,m 8 44]
def r6:=[m 45 7,m 46 8,o 47 (.c9 47 1 [46]),o 48 (.call 101 [47]),m 4 45,m 5 48,o 6 (.b7 (k 0))]
def r7:=[m 49 0,m 50 1,o 51 (.call 102 [49,50]),o 52 (.bin .lss 51 (k 0))]
def r8:=[m 53 0,o 4 (.b7 (.c .nil)),m 5 53,o 6 (.b7 (k 0))]
def r9:=[m 54 1,m 55 1,o 56 (.len 55),o 57 (.bin .sub 56 (k 1)),o 58 (.dc 1 54 (some 57) none),o 59 (.call 106 [58]),o 60 (.bin .sub (k 32) 59),m 9 60]
def CE:=[m 61 0,m 62 9,o 63 (.g6 107 [61,62]),m 64 1,m 65 9,o 66 (.call 107 [64,65]),m 10 63,m 11 66]
def CI:=[m 67 10,o 68 (.c9 68 1 [(.c (.int .u32 (0)))]),o 69 (.app 69 1 4 67 68),m 10 69]
def u9:=[m 70 10,o 71 (.len 70),m 72 0,o 73 (.len 72),o 74 (.bin .add 73 (k 1)),o 75 (.bin .lss 71 74)]
def DH:=[m 76 10,o 77 (.c9 77 1 [(.c (.int .u32 (0)))]),o 78 (.app 78 1 4 76 77),m 10 78]
def br:=[m 79 11,o 80 (.len 79),m 12 80]
def db:=[m 81 10,o 82 (.len 81),m 83 12,o 84 (.bin .sub 82 83),o 85 (.mk 85 1 4 [(.int .u32 (0))] 84 84),m 13 85]
def fg:=[m 86 10,o 87 (.len 86),m 88 12,o 89 (.bin .sub 87 88),o 90 (.bin .sub 89 (k 1)),m 14 90]
def F4:=[m 91 14,o 92 (.bin .geq 91 (k 0))]
def jj:=[m 95 10,m 96 14,m 97 12,o 98 (.bin .add 96 97),o 99 (.a9 none 1 95 98),o 100 (.ld false 1 99),o 101 (.conv .u64 100),
 o 102 (.bin .shl 101 (.c (.int .u64 (32)))),m 103 10,m 104 14,m 105 12,o 106 (.bin .add 104 105),o 107 (.bin .sub 106 (k 1)),
 o 108 (.a9 none 1 103 107),o 109 (.ld false 1 108),o 110 (.conv .u64 109),o 111 (.bin .or 102 110),m 15 111]
def mb:=[m 112 15,m 113 11,m 114 12,o 115 (.bin .sub 114 (k 1)),o 116 (.a9 none 1 113 115),o 117 (.ld false 1 116),o 118 (.conv .u64 117),
 o 119 (.bin .quo 112 118),m 16 119]
def nn:=[m 120 15,m 121 11,m 122 12,o 123 (.bin .sub 122 (k 1)),o 124 (.a9 none 1 121 123),o 125 (.ld false 1 124),o 126 (.conv .u64 125),
 o 127 (.bin .rem 120 126),m 17 127]
def np:=[m 128 16,o 129 (.bin .geq 128 (.c (.int .u64 (4294967296)))),m 130 129,g 131 130 false (.b7 16),g 132 130 false (.b7 11),g 133 130 false (.b7 12),
 g 134 130 false (.bin .sub 133 (k 2)),g 135 130 false (.a9 none 1 132 134),g 136 130 false (.ld false 1 135),g 137 130 false (.conv .u64 136),
 g 138 130 false (.bin .mul 131 137),g 139 130 false (.b7 17),g 140 130 false (.bin .shl 139 (.c (.int .u64 (32)))),g 141 130 false (.b7 10),
 g 142 130 false (.b7 14),g 143 130 false (.b7 12),g 144 130 false (.bin .add 142 143),g 145 130 false (.bin .sub 144 (k 2)),
 g 146 130 false (.a9 none 1 141 145),g 147 130 false (.ld false 1 146),g 148 130 false (.conv .u64 147),g 149 130 false (.bin .or 140 148),
 g 150 130 false (.bin .gtr 138 149),o 151 (.pick 130 (.c (.bool true)) 150)]
def nq:=[m 152 16,o 153 (.bin .sub 152 (.c (.int .u64 (1)))),m 16 153]
def NW:=[m 154 17,m 155 11,m 156 12,o 157 (.bin .sub 156 (k 1)),o 158 (.a9 none 1 155 157),o 159 (.ld false 1 158),o 160 (.conv .u64 159),
 o 161 (.bin .add 154 160),m 17 161]
def P2:=[m 162 17,o 163 (.bin .geq 162 (.c (.int .u64 (4294967296))))]
def TG:=[o 18 (.b7 (.c (.int .u64 (0)))),o 19 (.b7 (.c (.int .u64 (0))))]
def aG:=[o 20 (.b7 (k 0))]
def aH:=[m 164 20,m 165 12,o 166 (.bin .lss 164 165)]
def Ct:=[m 169 19,m 170 16,m 171 11,m 172 20,o 173 (.a9 none 1 171 172),o 174 (.ld false 1 173),o 175 (.conv .u64 174),o 176 (.bin .mul 170 175),
 o 177 (.bin .add 169 176),m 19 177]
def Cu:=[m 178 19,o 179 (.bin .and 178 (.c (.int .u64 (4294967295)))),m 180 18,o 181 (.bin .add 179 180),m 21 181]
def Xg:=[m 182 19,o 183 (.bin .shr 182 (.c (.int .u64 (32)))),m 19 183]
def Xh:=[m 184 10,m 185 20,m 186 14,o 187 (.bin .add 185 186),o 188 (.a9 none 1 184 187),o 189 (.ld false 1 188),o 190 (.conv .u64 189),m 22 190]
def Xi:=[o 18 (.b7 (.c (.int .u64 (0))))]
def Xj:=[m 191 22,m 192 21,o 193 (.bin .lss 191 192)]
def Xk:=[m 194 22,o 195 (.bin .add 194 (.c (.int .u64 (4294967296)))),m 22 195]
def Xl:=[o 18 (.b7 (.c (.int .u64 (1))))]
def Xm:=[m 196 10,m 197 20,m 198 14,o 199 (.bin .add 197 198),m 200 22,m 201 21,o 202 (.bin .sub 200 201),o 203 (.conv .u32 202),o 204 (.a9 none 1 196 199),
 n (.st 1 204 203)]
def aI:=[m 167 20,o 168 (.bin .add 167 (k 1)),m 20 168]
def Jc:=[m 205 19,m 206 18,o 207 (.bin .add 205 206),m 23 207]
def Jd:=[m 208 10,m 209 14,m 210 12,o 211 (.bin .add 209 210),o 212 (.a9 none 1 208 211),o 213 (.ld false 1 212),o 214 (.conv .u64 213),m 24 214]
def Je:=[o 18 (.b7 (.c (.int .u64 (0))))]
def Jf:=[m 215 24,m 216 23,o 217 (.bin .lss 215 216)]
def Jg:=[m 218 24,o 219 (.bin .add 218 (.c (.int .u64 (4294967296)))),m 24 219]
def Jh:=[o 18 (.b7 (.c (.int .u64 (1))))]
def Ji:=[m 220 10,m 221 14,m 222 12,o 223 (.bin .add 221 222),m 224 24,m 225 23,o 226 (.bin .sub 224 225),o 227 (.conv .u32 226),o 228 (.a9 none 1 220 223),
 n (.st 1 228 227)]
def Jj:=[m 229 18,o 230 (.bin .eql 229 (.c (.int .u64 (1))))]
def Jk:=[m 231 16,o 232 (.bin .sub 231 (.c (.int .u64 (1)))),m 16 232]
def Jl:=[o 25 (.b7 (.c (.int .u64 (0))))]
def Jm:=[o 26 (.b7 (k 0))]
def Xn:=[m 233 26,m 234 12,o 235 (.bin .lss 233 234)]
def Xp:=[m 238 25,m 239 10,m 240 26,m 241 14,o 242 (.bin .add 240 241),o 243 (.a9 none 1 239 242),o 244 (.ld false 1 243),o 245 (.conv .u64 244),m 246 11,
 m 247 26,o 248 (.a9 none 1 246 247),o 249 (.ld false 1 248),o 250 (.conv .u64 249),o 251 (.bin .add 245 250),o 252 (.bin .add 238 251),m 25 252]
def Xq:=[m 253 10,m 254 26,m 255 14,o 256 (.bin .add 254 255),m 257 25,o 258 (.conv .u32 257),o 259 (.a9 none 1 253 256),n (.st 1 259 258)]
def Xr:=[m 260 25,o 261 (.bin .shr 260 (.c (.int .u64 (32)))),m 25 261]
def Xo:=[m 236 26,o 237 (.bin .add 236 (k 1)),m 26 237]
def Jn:=[m 262 10,m 263 14,m 264 12,o 265 (.bin .add 263 264),o 266 (.a9 none 1 262 265),o 267 (.ld false 1 266),m 268 25,o 269 (.conv .u32 268),
 o 270 (.bin .add 267 269),o 271 (.a9 none 1 262 265),n (.st 1 271 270)]
def Jo:=[m 272 13,m 273 14,m 274 16,o 275 (.conv .u32 274),o 276 (.a9 none 1 272 273),n (.st 1 276 275)]
def fw:=[m 93 14,o 94 (.bin .sub 93 (k 1)),m 14 94]
def Gm:=[m 277 13,o 278 (.call 101 [277]),m 279 10,m 280 12,o 281 (.dc 1 279 none (some 280)),m 282 9,o 283 (.un .neg 282),o 284 (.call 107 [281,283]),m 4 278,
 m 5 284,o 6 (.b7 (k 0))]
def l1:=(s (s (d u9 [70,71,72,73,74]) (i 75 .skip (x 0))) (b 1 (d DH [75,76,77,78])))
def l3:=(s (s (e np [128,129,130,131,132,133,134,135,136,137,138,139,140,141,142,143,144,145,146,147,148,149,150,163]) (i 151 .skip (x 4))) (b 5 (s (d nq [151,152,153]) (s (d NW [154,155,156,157,158,159,160,161]) (s (d P2 [162]) (i 163 (x 4) .skip))))))
def l4:=(s (s (d aH [164,165]) (i 166 .skip (x 6))) (s (b 7 (s (d Ct [166,169,170,171,172,173,174,175,176,177]) (s (d Cu [18,178,179,180,181]) (s (d Xg [182,183]) (s (d Xh [184,185,186,187,188,189,190]) (s (p Xi) (s (s (d Xj [191,192]) (i 193 (s (d Xk [18,193,194,195]) (p Xl)) .skip)) (d Xm [21,22,193,196,197,198,199,200,201,202,203,204])))))))) (d aI [167,168])))
def l5:=(s (s (d Xn [233,234]) (i 235 .skip (x 8))) (s (b 9 (s (e Xp [235,238,239,240,241,242,243,244,245,246,247,248,249,250,251,252]) (s (d Xq [253,254,255,256,257,258,259]) (d Xr [260,261])))) (d Xo [236,237])))
def l2:=(s (s (d F4 [91]) (i 92 .skip (x 2))) (s (b 3 (s (e jj [92,95,96,97,98,99,100,101,102,103,104,105,106,107,108,109,110,111]) (s (d mb [112,113,114,115,116,117,118,119]) (s (d nn [15,120,121,122,123,124,125,126,127]) (s (b 4 (w l3)) (s (d TG [17,151,163]) (s (s (p aG) (b 6 (w l4))) (s (d Jc [18,19,20,166,205,206,207]) (s (d Jd [208,209,210,211,212,213,214]) (s (p Je) (s (s (d Jf [215,216]) (i 217 (s (d Jg [18,217,218,219]) (p Jh)) .skip)) (s (d Ji [23,24,217,220,221,222,223,224,225,226,227,228]) (s (s (d Jj [18,229]) (i 230 (s (d Jk [230,231,232]) (s (p Jl) (s (s (p Jm) (b 8 (w l5))) (d Jn [25,26,235,262,263,264,265,266,267,268,269,270,271])))) .skip)) (d Jo [16,230,272,273,274,275,276])))))))))))))) (d fw [93,94])))
def c:=(s (d r0 [4,5,6]) (s (d r1 [27,28,29,30]) (s (s (d r2 [31,32]) (i 33 (s (d r3 [0,1,33]) .ret) .skip)) (s (s (d r4 [33,34,35]) (i 36 (s (d r5 [0,1,36,37,38,39,40,41,42,43,44]) (s (d r6 [7,8,45,46,47,48]) .ret)) .skip)) (s (s (d r7 [36,49,50,51]) (i 52 (s (d r8 [0,1,52,53]) .ret) .skip)) (s (d r9 [52,54,55,56,57,58,59,60]) (s (d CE [1,61,62,63,64,65,66]) (s (d CI [67,68,69]) (s (b 0 (w l1)) (s (d br [0,75,79,80]) (s (d db [81,82,83,84,85]) (s (s (d fg [86,87,88,89,90]) (b 2 (w l2))) (s (e Gm [9,10,11,12,13,14,92,277,278,279,280,281,282,283,284]) .ret)))))))))))))
end DI
def DI:AFn:=⟨2,DI.c,[.tmp 4,.tmp 5,.tmp 6],false⟩
namespace LF
def r0:=[o 4 (.b7 (.c .nil))]
def r1:=[m 8 0,o 9 (.call 101 [8]),m 10 1,o 11 (.call 101 [10]),m 0 9,m 1 11]
def r2:=[m 12 1,o 13 (.len 12),o 14 (.bin .gtr 13 (k 0))]
def r3:=[m 16 0,m 17 1,o 18 (.call 109 [16,17]),m 15 18,o 19 (.ext 15 0),o 20 (.ext 15 1),o 21 (.ext 15 2),m 5 19,m 6 20,m 7 21]
def r4:=[m 22 1,m 23 6,m 0 22,m 1 23]
def r5:=[m 24 0,m 4 24]
def l1:=(s (s (d r2 [12,13]) (i 14 .skip (x 0))) (b 1 (s (d r3 [0,5,7,14,15,16,17,18,19,20,21]) (d r4 [6,22,23]))))
def c:=(s (d r0 [4]) (s (d r1 [8,9,10,11]) (s (b 0 (w l1)) (s (d r5 [0,1,14,24]) .ret))))
end LF
def LF:AFn:=⟨2,LF.c,[.tmp 4],false⟩
namespace LS
def r0:=[o 1 (.box 1 0),o 2 (.alloc 2 [(.bool false),.nil])]
def r1:=[o 4 (.a5 1 1),o 5 (.ld false 1 4),o 6 (.call 101 [5]),m 3 6]
def r2:=[o 7 (.a5 1 0),o 8 (.ld false 1 7),m 9 8,g 10 9 true (.b7 3),g 11 9 true (.len 10),g 12 9 true (.bin .gtr 11 (k 0)),
 o 13 (.pick 9 12 (.c (.bool false))),m 14 3,o 15 (.build [(.bool false),.nil] [(0,1,13),(1,1,14)]),n (.st 2 2 15)]
def c:=(s (d r0 [0]) (s (d r1 [4,5,6]) (s (d r2 [1,3,7,8,9,10,11,12,13,14,15]) .ret)))
end LS
def LS:AFn:=⟨1,LS.c,[.cell 2 true 2],false⟩
namespace LP
def r0:=[o 2 (.alloc 2 [(.bool false),.nil])]
def r1:=[m 4 0,o 5 (.bin .lss 4 (k 0))]
def r2:=[m 6 0,o 7 (.bin .add 6 (k 1)),o 8 (.un .neg 7),o 9 (.conv .u64 8),o 10 (.bin .add 9 (.c (.int .u64 (1)))),m 3 10]
def r3:=[m 11 3,o 12 (.conv .u32 11),m 13 3,o 14 (.bin .shr 13 (.c (.int .u64 (32)))),o 15 (.conv .u32 14),o 16 (.c9 16 1 [12,15]),
 o 17 (.build [(.bool false),.nil] [(0,1,(.c (.bool true))),(1,1,16)]),o 18 (.call 111 [17]),n (.st 2 2 18)]
def r4:=[m 19 0,o 20 (.conv .u32 19),m 21 0,o 22 (.conv .u64 21),o 23 (.bin .shr 22 (.c (.int .u64 (32)))),o 24 (.conv .u32 23),o 25 (.c9 25 1 [20,24]),
 o 26 (.build [(.bool false),.nil] [(1,1,25)]),o 27 (.call 111 [26]),n (.st 2 2 27)]
def c:=(s (p r0) (s (s (d r1 [4]) (i 5 (s (d r2 [0,5,6,7,8,9,10]) (s (d r3 [3,11,12,13,14,15,16,17,18]) .ret)) .skip)) (s (d r4 [0,5,19,20,21,22,23,24,25,26,27]) .ret)))
end LP
def LP:AFn:=⟨1,LP.c,[.cell 2 true 2],false⟩
namespace LQ
def r0:=[o 1 (.box 1 0),o 2 (.b7 (k 0))]
def r1:=[o 3 (.ld true 2 1),o 4 (.call 111 [3]),n (.st 2 1 4)]
def r2:=[o 6 (.a5 1 1),o 7 (.ld false 1 6),o 8 (.len 7),o 9 (.bin .eql 8 (k 0)),m 5 9]
def r3:=[o 2 (.b7 (k 0))]
def r4:=[o 11 (.a5 1 0),o 12 (.ld false 1 11),m 10 12]
def r5:=[o 2 (.b7 (k (-1)))]
def r6:=[o 2 (.b7 (k 1))]
def c:=(s (d r0 [0,2]) (s (d r1 [3,4]) (s (b 0 (s (d r2 [6,7,8,9]) (i 5 (s (d r3 [1,5]) .ret) (s (d r4 [1,5,11,12]) (i 10 (s (d r5 [10]) .ret) .skip))))) (s (d r6 [10]) .ret))))
end LQ
def LQ:AFn:=⟨1,LQ.c,[.tmp 2],false⟩
namespace LO
def r0:=[o 1 (.box 1 0),o 2 (.alloc 2 [(.bool false),.nil])]
def r1:=[o 3 (.ld true 2 1),o 4 (.call 111 [3]),n (.st 2 1 4)]
def r2:=[o 5 (.a5 1 0),o 6 (.ld false 1 5),o 7 (.un .not 6),m 8 7,g 9 8 true (.a5 1 1),g 10 8 true (.ld false 1 9),g 11 8 true (.len 10),
 g 12 8 true (.bin .gtr 11 (k 0)),o 13 (.pick 8 12 (.c (.bool false))),o 14 (.a5 1 0),n (.st 1 14 13)]
def r3:=[o 15 (.ld true 2 1),n (.st 2 2 15)]
def c:=(s (d r0 [0]) (s (d r1 [3,4]) (s (d r2 [5,6,7,8,9,10,11,12,13,14]) (s (d r3 [1,15]) .ret))))
end LO
def LO:AFn:=⟨1,LO.c,[.cell 2 true 2],false⟩
namespace LJ
def r0:=[o 2 (.box 2 0),o 3 (.box 3 1),o 4 (.alloc 4 [(.bool false),.nil])]
def r1:=[o 5 (.ld true 2 2),o 6 (.call 111 [5]),o 7 (.ld true 2 3),o 8 (.call 111 [7]),n (.st 2 2 6),n (.st 2 3 8)]
def r2:=[o 9 (.a5 2 0),o 10 (.ld false 1 9),o 11 (.a5 3 0),o 12 (.ld false 1 11),o 13 (.beq false 10 12)]
def r3:=[o 14 (.a5 2 0),o 15 (.ld false 1 14),o 16 (.a5 2 1),o 17 (.ld false 1 16),o 18 (.a5 3 1),o 19 (.ld false 1 18),o 20 (.call 103 [17,19]),
 o 21 (.build [(.bool false),.nil] [(0,1,15),(1,1,20)]),o 22 (.call 111 [21]),n (.st 2 4 22)]
def r4:=[o 23 (.a5 2 1),o 24 (.ld false 1 23),o 25 (.a5 3 1),o 26 (.ld false 1 25),o 27 (.call 102 [24,26]),o 28 (.bin .geq 27 (k 0))]
def r5:=[o 29 (.a5 2 0),o 30 (.ld false 1 29),o 31 (.a5 2 1),o 32 (.ld false 1 31),o 33 (.a5 3 1),o 34 (.ld false 1 33),o 35 (.call 104 [32,34]),
 o 36 (.build [(.bool false),.nil] [(0,1,30),(1,1,35)]),o 37 (.call 111 [36]),n (.st 2 4 37)]
def r6:=[o 38 (.a5 3 0),o 39 (.ld false 1 38),o 40 (.a5 3 1),o 41 (.ld false 1 40),o 42 (.a5 2 1),o 43 (.ld false 1 42),o 44 (.call 104 [41,43]),
 o 45 (.build [(.bool false),.nil] [(0,1,39),(1,1,44)]),o 46 (.call 111 [45]),n (.st 2 4 46)]
def c:=(s (d r0 [0,1]) (s (e r1 [5,6,7,8]) (s (s (d r2 [9,10,11,12]) (i 13 (s (e r3 [2,3,13,14,15,16,17,18,19,20,21,22]) .ret) .skip)) (s (s (d r4 [13,23,24,25,26,27]) (i 28 (s (e r5 [2,3,28,29,30,31,32,33,34,35,36,37]) .ret) .skip)) (s (e r6 [2,3,28,38,39,40,41,42,43,44,45,46]) .ret)))))
end LJ
def LJ:AFn:=⟨2,LJ.c,[.cell 4 true 2],false⟩
namespace LR
def r0:=[o 2 (.box 2 0),o 3 (.box 3 1),o 4 (.alloc 4 [(.bool false),.nil])]
def r1:=[o 5 (.ld true 2 2),o 6 (.ld true 2 3),o 7 (.call 114 [6]),o 8 (.call 115 [5,7]),n (.st 2 4 8)]
def c:=(s (d r0 [0,1]) (s (e r1 [2,3,5,6,7,8]) .ret))
end LR
def LR:AFn:=⟨2,LR.c,[.cell 4 true 2],false⟩
namespace LK
def r0:=[o 2 (.box 2 0),o 3 (.box 3 1),o 4 (.b7 (k 0))]
def r1:=[o 5 (.ld true 2 2),o 6 (.ld true 2 3),o 7 (.call 116 [5,6]),o 8 (.call 113 [7]),m 4 8]
def c:=(s (d r0 [0,1,4]) (s (d r1 [2,3,5,6,7,8]) .ret))
end LK
def LK:AFn:=⟨2,LK.c,[.tmp 4],false⟩
namespace LN
def r0:=[o 2 (.box 2 0),o 3 (.box 3 1),o 4 (.alloc 4 [(.bool false),.nil])]
def r1:=[o 5 (.a5 2 0),o 6 (.ld false 1 5),o 7 (.a5 3 0),o 8 (.ld false 1 7),o 9 (.beq true 6 8),o 10 (.a5 2 1),o 11 (.ld false 1 10),o 12 (.a5 3 1),
 o 13 (.ld false 1 12),o 14 (.call 105 [11,13]),o 15 (.build [(.bool false),.nil] [(0,1,9),(1,1,14)]),o 16 (.call 111 [15]),n (.st 2 4 16)]
def c:=(s (d r0 [0,1]) (s (e r1 [2,3,5,6,7,8,9,10,11,12,13,14,15,16]) .ret))
end LN
def LN:AFn:=⟨2,LN.c,[.cell 4 true 2],false⟩
namespace LL
def r0:=[o 2 (.box 2 0),o 3 (.box 3 1),o 4 (.alloc 4 [(.bool false),.nil]),o 5 (.alloc 5 [(.bool false),.nil]),o 6 (.b7 (k 0))]
def r1:=[o 10 (.ld true 2 2),o 11 (.call 111 [10]),o 12 (.ld true 2 3),o 13 (.call 111 [12]),n (.st 2 2 11),n (.st 2 3 13)]
def r2:=[o 15 (.a5 2 1),o 16 (.ld false 1 15),o 17 (.a5 3 1),o 18 (.ld false 1 17),o 19 (.call 109 [16,18]),m 14 19,o 20 (.ext 14 0),o 21 (.ext 14 1),
 o 22 (.ext 14 2),m 7 20,m 8 21,m 9 22]
def r3:=[m 23 9,o 24 (.bin .neq 23 (k 0))]
def r4:=[o 25 (.build [(.bool false),.nil] []),o 26 (.build [(.bool false),.nil] []),m 27 9,n (.st 2 4 25),n (.st 2 5 26),m 6 27]
def r5:=[o 28 (.a5 2 0),o 29 (.ld false 1 28),m 30 29,g 31 30 true (.b7 8),g 32 30 true (.len 31),g 33 30 true (.bin .gtr 32 (k 0)),
 o 34 (.pick 30 33 (.c (.bool false)))]
def r6:=[m 35 7,o 36 (.c9 36 1 [(.c (.int .u32 (1)))]),o 37 (.call 103 [35,36]),o 38 (.a5 3 1),q 39 [36] (.ld false 1 38),m 40 8,
 o 41 (.call 104 [39,40]),m 7 37,m 8 41]
def r7:=[o 42 (.a5 2 0),o 43 (.ld false 1 42),o 44 (.a5 3 0),o 45 (.ld false 1 44),o 46 (.beq true 43 45),m 47 7,
 o 48 (.build [(.bool false),.nil] [(0,1,46),(1,1,47)]),o 49 (.call 111 [48]),m 50 8,o 51 (.build [(.bool false),.nil] [(1,1,50)]),n (.st 2 4 49),
 n (.st 2 5 51),o 6 (.b7 (k 0))]
def c:=(s (d r0 [0,1,6]) (s (e r1 [10,11,12,13]) (s (d r2 [14,15,16,17,18,19,20,21,22]) (s (s (d r3 [23]) (i 24 (s (d r4 [2,3,7,8,9,24,25,26,27]) .ret) .skip)) (s (s (d r5 [9,24,28,29,30,31,32,33]) (i 34 (e r6 [34,35,36,37,38,39,40,41]) .skip)) (s (d r7 [2,3,7,8,34,42,43,44,45,46,47,48,49,50,51]) .ret))))))
end LL
def LL:AFn:=⟨2,LL.c,[.cell 4 true 2,.cell 5 true 2,.tmp 6],false⟩
namespace LM
def r0:=[o 2 (.box 2 0),o 3 (.box 3 1),o 4 (.alloc 4 [(.bool false),.nil])]
def r1:=[o 5 (.a5 2 1),o 6 (.ld false 1 5),o 7 (.a5 3 1),o 8 (.ld false 1 7),o 9 (.call 110 [6,8]),o 10 (.build [(.bool false),.nil] [(1,1,9)]),
 n (.st 2 4 10)]
def c:=(s (d r0 [0,1]) (s (d r1 [2,3,5,6,7,8,9,10]) .ret))
end LM
def LM:AFn:=⟨2,LM.c,[.cell 4 true 2],false⟩
namespace HS
def r0:=[o 2 (.box 2 0),o 3 (.box 3 1),o 4 (.alloc 4 [(.bool false),.nil,.nil])]
def r1:=[o 12 (.ld true 2 2),o 13 (.call 113 [12]),o 14 (.bin .eql 13 (k 0)),m 15 14,g 16 15 false (.ld true 2 3),g 17 15 false (.call 113 [16]),
 g 18 15 false (.bin .eql 17 (k 0)),o 19 (.pick 15 (.c (.bool true)) 18)]
def r2:=[o 20 (.c9 20 1 [(.c (.int .u32 (1)))]),o 21 (.build [(.bool false),.nil,.nil] [(2,1,20)]),n (.st 3 4 21)]
def r3:=[o 22 (.ld true 2 2),o 23 (.ld true 2 3),o 24 (.call 120 [22,23]),o 5 (.alloc 5 [(.bool false),.nil]),n (.st 2 5 24)]
def r4:=[o 26 (.ld true 2 2),o 27 (.ld true 2 5),o 28 (.call 119 [26,27]),m 25 28,o 29 (.ext 25 0),o 30 (.ext 25 1),o 31 (.ext 25 2),
 o 6 (.alloc 6 [(.bool false),.nil]),o 7 (.alloc 7 [(.bool false),.nil]),n (.st 2 6 29),n (.st 2 7 30),m 8 31]
def r5:=[o 33 (.ld true 2 3),o 34 (.ld true 2 5),o 35 (.call 119 [33,34]),m 32 35,o 36 (.ext 32 0),o 37 (.ext 32 1),o 38 (.ext 32 2),
 o 9 (.alloc 9 [(.bool false),.nil]),o 10 (.alloc 10 [(.bool false),.nil]),n (.st 2 9 36),n (.st 2 10 37),m 11 38]
def r6:=[o 39 (.a5 9 0),o 40 (.ld false 1 39)]
def r7:=[o 41 (.ld true 2 6),o 42 (.call 114 [41]),n (.st 2 6 42)]
def r8:=[o 43 (.ld true 2 6),o 44 (.a5 9 1),o 45 (.ld false 1 44),o 46 (.build [(.bool false),.nil,.nil] [(0,2,43),(2,1,45)]),n (.st 3 4 46)]
def c:=(s (d r0 [0,1]) (s (s (d r1 [12,13,14,15,16,17,18]) (i 19 (s (d r2 [2,3,19,20,21]) .ret) .skip)) (s (d r3 [19,22,23,24]) (s (d r4 [2,7,8,25,26,27,28,29,30,31]) (s (d r5 [3,5,10,11,32,33,34,35,36,37,38]) (s (s (d r6 [39]) (i 40 (d r7 [40,41,42]) .skip)) (s (d r8 [6,9,40,43,44,45,46]) .ret)))))))
end HS
def HS:AFn:=⟨2,HS.c,[.cell 4 true 3],false⟩
namespace IR
def r0:=[o 1 (.box 1 0),o 2 (.alloc 2 [(.bool false),.nil]),o 3 (.alloc 3 [(.bool false),.nil])]
def r1:=[o 5 (.a5 1 2),o 6 (.ld false 1 5),o 7 (.call 101 [6]),o 8 (.build [(.bool false),.nil] [(1,1,7)]),o 4 (.alloc 4 [(.bool false),.nil]),n (.st 2 4 8)]
def r2:=[o 9 (.a5 4 1),o 10 (.ld false 1 9),o 11 (.len 10),o 12 (.bin .eql 11 (k 0))]
def r3:=[o 13 (.build [(.bool false),.nil] []),o 14 (.c9 14 1 [(.c (.int .u32 (1)))]),o 15 (.build [(.bool false),.nil] [(1,1,14)]),n (.st 2 2 13),
 n (.st 2 3 15)]
def r4:=[o 16 (.a5 1 0),o 17 (.ld true 2 16),q 18 [2] (.ld true 2 4),n (.jl 2 2 2 17),n (.st 2 3 18)]
def c:=(s (d r0 [0]) (s (d r1 [5,6,7,8]) (s (s (d r2 [9,10,11]) (i 12 (s (d r3 [1,4,12,13,14,15]) .ret) .skip)) (s (e r4 [1,4,12,16,17,18]) .ret))))
end IR
def IR:AFn:=⟨1,IR.c,[.cell 2 true 2,.cell 3 true 2],false⟩
namespace L0
def r0:=[o 1 (.box 1 0),o 2 (.alloc 2 [(.bool false),.nil,.nil])]
def r1:=[o 6 (.ld true 3 1),o 7 (.call 122 [6]),m 5 7,o 8 (.ext 5 0),o 9 (.ext 5 1),o 3 (.alloc 3 [(.bool false),.nil]),o 4 (.alloc 4 [(.bool false),.nil]),
 n (.st 2 3 8),n (.st 2 4 9)]
def r2:=[o 10 (.ld true 2 3),o 11 (.ld true 2 4),o 12 (.call 121 [10,11]),n (.st 3 2 12)]
def c:=(s (d r0 [0]) (s (d r1 [1,5,6,7,8,9]) (s (d r2 [3,4,10,11,12]) .ret)))
end L0
def L0:AFn:=⟨1,L0.c,[.cell 2 true 3],false⟩
namespace LZ
def r0:=[o 2 (.alloc 2 [(.bool false),.nil,.nil])]
def r1:=[m 3 0,o 4 (.call 112 [3]),o 5 (.c9 5 1 [(.c (.int .u32 (1)))]),o 6 (.build [(.bool false),.nil,.nil] [(0,2,4),(2,1,5)]),n (.st 3 2 6)]
def c:=(s (p r0) (s (d r1 [0,3,4,5,6]) .ret))
end LZ
def LZ:AFn:=⟨1,LZ.c,[.cell 2 true 3],false⟩
namespace LW
def r0:=[o 4 (.alloc 4 [(.bool false),.nil,.nil])]
def r1:=[m 5 0,o 6 (.call 112 [5]),m 7 1,o 8 (.call 112 [7]),o 9 (.call 121 [6,8]),n (.st 3 4 9)]
def c:=(s (p r0) (s (d r1 [0,1,5,6,7,8,9]) .ret))
end LW
def LW:AFn:=⟨2,LW.c,[.cell 4 true 3],false⟩
namespace LU
def r0:=[o 2 (.box 2 0),o 3 (.box 3 1),o 4 (.alloc 4 [(.bool false),.nil,.nil])]
def r1:=[o 10 (.ld true 3 2),o 11 (.call 122 [10]),m 9 11,o 12 (.ext 9 0),o 13 (.ext 9 1),o 5 (.alloc 5 [(.bool false),.nil]),
 o 6 (.alloc 6 [(.bool false),.nil]),n (.st 2 5 12),n (.st 2 6 13)]
def r2:=[o 15 (.ld true 3 3),o 16 (.call 122 [15]),m 14 16,o 17 (.ext 14 0),o 18 (.ext 14 1),o 7 (.alloc 7 [(.bool false),.nil]),
 o 8 (.alloc 8 [(.bool false),.nil]),n (.st 2 7 17),n (.st 2 8 18)]
def r3:=[o 19 (.ld true 2 5),o 20 (.ld true 2 8),o 21 (.call 118 [19,20]),o 22 (.ld true 2 7),o 23 (.ld true 2 6),o 24 (.call 118 [22,23]),
 o 25 (.call 115 [21,24]),o 26 (.ld true 2 6),o 27 (.ld true 2 8),o 28 (.call 118 [26,27]),o 29 (.call 121 [25,28]),n (.st 3 4 29)]
def c:=(s (d r0 [0,1]) (s (d r1 [2,9,10,11,12,13]) (s (d r2 [3,14,15,16,17,18]) (s (e r3 [5,6,7,8,19,20,21,22,23,24,25,26,27,28,29]) .ret))))
end LU
def LU:AFn:=⟨2,LU.c,[.cell 4 true 3],false⟩
namespace LV
def r0:=[o 2 (.box 2 0),o 3 (.box 3 1),o 4 (.b7 (k 0))]
def r1:=[o 10 (.ld true 3 2),o 11 (.call 122 [10]),m 9 11,o 12 (.ext 9 0),o 13 (.ext 9 1),o 5 (.alloc 5 [(.bool false),.nil]),
 o 6 (.alloc 6 [(.bool false),.nil]),n (.st 2 5 12),n (.st 2 6 13)]
def r2:=[o 15 (.ld true 3 3),o 16 (.call 122 [15]),m 14 16,o 17 (.ext 14 0),o 18 (.ext 14 1),o 7 (.alloc 7 [(.bool false),.nil]),
 o 8 (.alloc 8 [(.bool false),.nil]),n (.st 2 7 17),n (.st 2 8 18)]
def r3:=[o 19 (.ld true 2 5),o 20 (.ld true 2 8),o 21 (.call 118 [19,20]),o 22 (.ld true 2 7),o 23 (.ld true 2 6),o 24 (.call 118 [22,23]),
 o 25 (.call 117 [21,24]),m 4 25]
def c:=(s (d r0 [0,1,4]) (s (d r1 [2,9,10,11,12,13]) (s (d r2 [3,14,15,16,17,18]) (s (e r3 [5,6,7,8,19,20,21,22,23,24,25]) .ret))))
end LV
def LV:AFn:=⟨2,LV.c,[.tmp 4],false⟩
namespace LX
def r0:=[o 2 (.box 2 0),o 3 (.box 3 1),o 4 (.alloc 4 [(.bool false),.nil,.nil])]
def r1:=[o 10 (.ld true 3 2),o 11 (.call 122 [10]),m 9 11,o 12 (.ext 9 0),o 13 (.ext 9 1),o 5 (.alloc 5 [(.bool false),.nil]),
 o 6 (.alloc 6 [(.bool false),.nil]),n (.st 2 5 12),n (.st 2 6 13)]
def r2:=[o 15 (.ld true 3 3),o 16 (.call 122 [15]),m 14 16,o 17 (.ext 14 0),o 18 (.ext 14 1),o 7 (.alloc 7 [(.bool false),.nil]),
 o 8 (.alloc 8 [(.bool false),.nil]),n (.st 2 7 17),n (.st 2 8 18)]
def r3:=[o 19 (.ld true 2 5),o 20 (.ld true 2 7),o 21 (.call 118 [19,20]),o 22 (.ld true 2 6),o 23 (.ld true 2 8),o 24 (.call 118 [22,23]),
 o 25 (.call 121 [21,24]),n (.st 3 4 25)]
def c:=(s (d r0 [0,1]) (s (d r1 [2,9,10,11,12,13]) (s (d r2 [3,14,15,16,17,18]) (s (e r3 [5,6,7,8,19,20,21,22,23,24,25]) .ret))))
end LX
def LX:AFn:=⟨2,LX.c,[.cell 4 true 3],false⟩
structure a8 (L:Lib):Prop where
 GU:L 101=some F.GU
 LE:L 102=some F.LE
 LC:L 103=some F.LC
 H7:L 104=some F.H7
 LG:L 105=some F.LG
 LD:L 106=some F.LD
 HR:L 107=some F.HR
 LH:L 108=some F.LH
 DI:L 109=some F.DI
 LF:L 110=some F.LF
 LS:L 111=some F.LS
 LP:L 112=some F.LP
 LQ:L 113=some F.LQ
 LO:L 114=some F.LO
 LJ:L 115=some F.LJ
 LR:L 116=some F.LR
 LK:L 117=some F.LK
 LN:L 118=some F.LN
 LL:L 119=some F.LL
 LM:L 120=some F.LM
 HS:L 121=some F.HS
 IR:L 122=some F.IR
 L0:L 123=some F.L0
 LZ:L 124=some F.LZ
 LW:L 125=some F.LW
 LU:L 126=some F.LU
 LV:L 127=some F.LV
 LX:L 128=some F.LX
end Go.c4.F

namespace Go.c4.F
open C
namespace KF
def r0:=[o 1 (.box 1 0),o 2 (.b7 (.c (.bool false)))]
def r1:=[o 6 (.a5 1 0),o 7 (.ld false 1 6),o 8 (.len 7),m 3 8]
def r2:=[m 9 3,o 10 (.bin .gtr 9 (k 64)),m 11 10,g 12 11 false (.a5 1 1),g 13 11 false (.ld false 1 12),g 14 11 false (.len 13),g 15 11 false (.b7 3),
 g 16 11 false (.bin .neq 14 15),o 17 (.pick 11 (.c (.bool true)) 16),m 18 17,g 19 18 false (.a5 1 2),g 20 18 false (.ld false 1 19),
 g 21 18 false (.len 20),g 22 18 false (.b7 3),g 23 18 false (.bin .neq 21 22),o 24 (.pick 18 (.c (.bool true)) 23)]
def r3:=[o 2 (.b7 (.c (.bool false)))]
def r4:=[o 25 (.a5 1 0),o 26 (.ld false 1 25),o 27 (.len 26),o 28 (.b7 (k 0))]
def r5:=[o 29 (.bin .lss 28 27)]
def r6:=[o 30 (.a9 none 1 26 28),o 31 (.ld false 1 30),m 5 31]
def r7:=[m 32 5,o 33 (.len 32),m 34 3,o 35 (.bin .neq 33 34)]
def r8:=[o 2 (.b7 (.c (.bool false)))]
def r9:=[o 36 (.bin .add 28 (k 1)),m 28 36]
def CE:=[o 2 (.b7 (.c (.bool true)))]
def l1:=(s (p r5) (s (i 29 .skip (x 0)) (s (b 1 (s (d r6 [29,30,31]) (s (d r7 [5,32,33,34]) (i 35 (s (d r8 [3,26,27,28,35]) .ret) .skip)))) (d r9 [35,36]))))
def c:=(s (d r0 [0,2]) (s (d r1 [6,7,8]) (s (s (d r2 [9,10,11,12,13,14,15,16,17,18,19,20,21,22,23]) (i 24 (s (d r3 [1,3,24]) .ret) .skip)) (s (s (d r4 [1,24,25]) (b 0 (w l1))) (s (d CE [3,26,27,28,29]) .ret)))))
end KF
def KF:AFn:=⟨1,KF.c,[.tmp 2],false⟩
namespace IO
def r0:=[o 2 (.b7 (.c .nil))]
def r1:=[m 5 0,o 6 (.mk 131006 3 56 [(.bool false),.nil,.nil] 5 5),m 3 6]
def r2:=[m 7 3,o 8 (.len 7),o 9 (.b7 (k 0))]
def r3:=[o 10 (.bin .lss 9 8)]
def r4:=[m 11 9,m 4 11]
def r5:=[m 12 3,m 13 4,o 14 (.call 96 [(k 0)]),o 15 (.a9 none 3 12 13),n (.st 3 15 14)]
def r6:=[o 16 (.bin .add 9 (k 1)),m 9 16]
def r7:=[m 17 3,m 2 17]
def l1:=(s (p r3) (s (i 10 .skip (x 0)) (s (b 1 (s (d r4 [10,11]) (d r5 [4,12,13,14,15]))) (d r6 [16]))))
def c:=(s (d r0 [2]) (s (d r1 [0,5,6]) (s (s (d r2 [7]) (b 0 (w l1))) (s (d r7 [3,8,9,10,17]) .ret))))
end IO
def IO:AFn:=⟨1,IO.c,[.tmp 2],false⟩
namespace KG
def r0:=[o 4 (.alloc 4 [(.bool false),.nil,.nil])]
def r1:=[o 8 (.call 96 [(k 0)]),o 5 (.alloc 5 [(.bool false),.nil,.nil]),n (.st 3 5 8)]
def r2:=[m 9 0,o 10 (.len 9),o 11 (.b7 (k 0))]
def r3:=[o 12 (.bin .lss 11 10)]
def r4:=[m 13 11,o 14 (.a9 none 3 9 11),o 15 (.ld true 3 14),o 7 (.alloc 7 [(.bool false),.nil,.nil]),m 6 13,n (.st 3 7 15)]
def r5:=[o 16 (.ld true 3 7),o 17 (.call 97 [16]),o 18 (.bin .neq 17 (k 0)),m 19 18,g 20 19 true (.b7 1),g 21 19 true (.b7 6),g 22 19 true (.a9 none 3 20 21),
 g 23 19 true (.ld true 3 22),g 24 19 true (.call 97 [23]),g 25 19 true (.bin .neq 24 (k 0)),o 26 (.pick 19 25 (.c (.bool false)))]
def r6:=[o 27 (.ld true 3 5),o 28 (.ld true 3 7),m 29 1,m 30 6,o 31 (.a9 none 3 29 30),o 32 (.ld true 3 31),o 33 (.call 99 [28,32]),o 34 (.call 98 [27,33]),
 n (.st 3 5 34)]
def r7:=[o 35 (.bin .add 11 (k 1)),m 11 35]
def r8:=[o 36 (.ld true 3 5),n (.st 3 4 36)]
def l1:=(s (p r3) (s (i 12 .skip (x 0)) (s (b 1 (s (d r4 [12,13,14,15]) (s (d r5 [16,17,18,19,20,21,22,23,24,25]) (i 26 (e r6 [6,7,26,27,28,29,30,31,32,33,34]) .skip)))) (d r7 [6,7,26,35]))))
def c:=(s (p r0) (s (d r1 [8]) (s (s (d r2 [0]) (b 0 (w l1))) (s (d r8 [1,5,9,10,11,12,36]) .ret))))
end KG
def KG:AFn:=⟨2,KG.c,[.cell 4 true 3],false⟩
namespace KE
def r0:=[o 3 (.box 133003 0),o 6 (.b7 (.c .nil)),o 7 (.b7 (.c .nil)),o 8 (.b7 (k 0))]
def r1:=[o 18 (.ld true 6 3),o 19 (.call 130 [18]),o 20 (.un .not 19)]
def r2:=[o 6 (.b7 (.c .nil)),o 7 (.b7 (.c .nil)),o 8 (.b7 (k 2))]
def r3:=[m 21 1,o 22 (.len 21),o 23 (.a5 3 0),o 24 (.ld false 1 23),o 25 (.len 24),o 26 (.bin .neq 22 25)]
def r4:=[o 6 (.b7 (.c .nil)),o 7 (.b7 (.c .nil)),o 8 (.b7 (k 1))]
def r5:=[m 27 2,o 28 (.len 27),o 29 (.bin .gtr 28 (k 4096))]
def r6:=[o 6 (.b7 (.c .nil)),o 7 (.b7 (.c .nil)),o 8 (.b7 (k 4))]
def r7:=[m 30 1,o 31 (.len 30),o 32 (.mk 133032 3 56 [(.bool false),.nil,.nil] 31 31),m 9 32]
def r8:=[m 33 1,o 34 (.len 33),o 35 (.b7 (k 0))]
def r9:=[o 36 (.bin .lss 35 34)]
def CE:=[m 37 35,o 38 (.a9 none 3 33 35),o 39 (.ld true 3 38),o 11 (.alloc 133011 [(.bool false),.nil,.nil]),m 10 37,n (.st 3 11 39)]
def CI:=[m 40 9,m 41 10,o 42 (.ld true 3 11),o 43 (.call 95 [42]),o 44 (.a9 none 3 40 41),n (.st 3 44 43)]
def u9:=[o 45 (.bin .add 35 (k 1)),m 35 45]
def DH:=[m 46 2,o 47 (.len 46),o 48 (.mk 133048 3 56 [(.bool false),.nil,.nil] (k 0) 47),m 12 48]
def br:=[m 49 2,o 50 (.len 49),o 51 (.b7 (k 0))]
def db:=[o 52 (.bin .lss 51 50)]
def fg:=[o 53 (.a9 none 3 49 51),o 54 (.ld true 3 53),o 14 (.alloc 133014 [(.bool false),.nil,.nil]),n (.st 3 14 54)]
def F4:=[m 55 12,o 56 (.a5 3 2),o 57 (.ld false 1 56),m 58 9,o 59 (.call 132 [57,58]),o 60 (.a5 3 3),o 61 (.ld true 3 60),o 62 (.ld true 3 14),
 o 63 (.call 99 [61,62]),o 64 (.call 98 [59,63]),o 65 (.c9 133065 3 [64]),o 66 (.app 133066 3 56 55 65),m 12 66]
def fw:=[m 67 9,o 68 (.len 67),o 69 (.mk 133069 3 56 [(.bool false),.nil,.nil] 68 68),m 15 69]
def jj:=[o 70 (.a5 3 0),o 71 (.ld false 1 70),o 72 (.len 71),o 73 (.b7 (k 0))]
def mb:=[o 74 (.bin .lss 73 72)]
def nn:=[m 75 73,o 76 (.a9 none 1 71 73),o 77 (.ld false 1 76),m 16 75,m 17 77]
def np:=[m 78 15,m 79 16,m 80 17,m 81 9,o 82 (.call 132 [80,81]),o 83 (.a5 3 1),o 84 (.ld false 1 83),m 85 16,o 86 (.a9 none 3 84 85),o 87 (.ld true 3 86),
 o 88 (.ld true 3 14),o 89 (.call 99 [87,88]),o 90 (.call 98 [82,89]),o 91 (.a9 none 3 78 79),n (.st 3 91 90)]
def nq:=[o 92 (.bin .add 73 (k 1)),m 73 92]
def NW:=[m 93 15,m 9 93]
def P2:=[o 94 (.bin .add 51 (k 1)),m 51 94]
def TG:=[m 95 12,m 96 9,m 6 95,m 7 96,o 8 (.b7 (k 0))]
def l1:=(s (p r9) (s (i 36 .skip (x 0)) (s (b 1 (s (d CE [36,37,38,39]) (d CI [10,11,40,41,42,43,44]))) (d u9 [45]))))
def l3:=(s (p mb) (s (i 74 .skip (x 4)) (s (b 5 (s (d nn [74,75,76,77]) (e np [16,17,78,79,80,81,82,83,84,85,86,87,88,89,90,91]))) (d nq [92]))))
def l2:=(s (p db) (s (i 52 .skip (x 2)) (s (b 3 (s (d fg [52,53,54]) (s (e F4 [55,56,57,58,59,60,61,62,63,64,65,66]) (s (d fw [67,68,69]) (s (s (d jj [70]) (b 4 (w l3))) (d NW [14,15,71,72,73,74,93])))))) (d P2 [94]))))
def c:=(s (d r0 [0,6,7,8]) (s (s (d r1 [18,19]) (i 20 (s (d r2 [1,2,3,20]) .ret) .skip)) (s (s (d r3 [20,21,22,23,24,25]) (i 26 (s (d r4 [1,2,3,26]) .ret) .skip)) (s (s (d r5 [26,27,28]) (i 29 (s (d r6 [1,2,3,29]) .ret) .skip)) (s (d r7 [29,30,31,32]) (s (s (d r8 [1]) (b 0 (w l1))) (s (d DH [33,34,35,36,46,47,48]) (s (s (d br [2]) (b 2 (w l2))) (s (d TG [3,9,12,49,50,51,52,95,96]) .ret)))))))))
end KE
def KE:AFn:=⟨3,KE.c,[.tmp 6,.tmp 7,.tmp 8],false⟩
namespace KD
def r0:=[o 2 (.box 2 0),o 4 (.b7 (.c .nil)),o 5 (.b7 (k 0))]
def r1:=[o 10 (.ld true 6 2),o 11 (.call 130 [10]),o 12 (.un .not 11)]
def r2:=[o 4 (.b7 (.c .nil)),o 5 (.b7 (k 2))]
def r3:=[m 13 1,o 14 (.bin .lss 13 (k 0))]
def r4:=[o 4 (.b7 (.c .nil)),o 5 (.b7 (k 1))]
def r5:=[m 15 1,o 16 (.bin .gtr 15 (k 4096))]
def r6:=[o 4 (.b7 (.c .nil)),o 5 (.b7 (k 4))]
def r7:=[m 17 1,o 18 (.g6 131 [17]),m 6 18]
def r8:=[m 19 1,o 20 (.bin .gtr 19 (k 0))]
def r9:=[m 21 6,o 22 (.call 96 [(k 1)]),o 23 (.a9 none 3 21 (k 0)),n (.st 3 23 22)]
def CE:=[o 25 (.ld true 6 2),o 26 (.a5 2 0),o 27 (.ld false 1 26),o 28 (.len 27),o 29 (.call 131 [28]),m 30 6,o 31 (.call 133 [25,29,30]),m 24 31,
 o 32 (.ext 24 0),o 33 (.ext 24 1),o 34 (.ext 24 2),m 7 32,m 8 33,m 9 34]
def CI:=[m 35 7,m 36 9,m 4 35,m 5 36]
def c:=(s (d r0 [0,4,5]) (s (s (d r1 [10,11]) (i 12 (s (d r2 [1,2,12]) .ret) .skip)) (s (s (d r3 [12,13]) (i 14 (s (d r4 [1,2,14]) .ret) .skip)) (s (s (d r5 [14,15]) (i 16 (s (d r6 [1,2,16]) .ret) .skip)) (s (d r7 [16,17,18]) (s (s (d r8 [1,19]) (i 20 (d r9 [20,21,22,23]) .skip)) (s (e CE [2,6,8,20,24,25,26,27,28,29,30,31,32,33,34]) (s (d CI [7,9,35,36]) .ret))))))))
end KD
def KD:AFn:=⟨2,KD.c,[.tmp 4,.tmp 5],false⟩
namespace L2
def r0:=[o 1 (.box 1 0),o 2 (.b7 (.c (.bool false)))]
def r1:=[o 5 (.a5 1 0),o 6 (.ld false 1 5),o 7 (.len 6),m 3 7]
def r2:=[m 8 3,o 9 (.bin .gtr 8 (k 64)),m 10 9,g 11 10 false (.a5 1 1),g 12 10 false (.ld false 1 11),g 13 10 false (.len 12),g 14 10 false (.b7 3),
 g 15 10 false (.bin .neq 13 14),o 16 (.pick 10 (.c (.bool true)) 15),m 17 16,g 18 17 false (.a5 1 2),g 19 17 false (.ld false 1 18),
 g 20 17 false (.len 19),g 21 17 false (.b7 3),g 22 17 false (.bin .neq 20 21),o 23 (.pick 17 (.c (.bool true)) 22)]
def r3:=[o 2 (.b7 (.c (.bool false)))]
def r4:=[o 4 (.b7 (k 0))]
def r5:=[m 24 4,m 25 3,o 26 (.bin .lss 24 25)]
def r7:=[o 29 (.a5 1 0),o 30 (.ld false 1 29),m 31 4,o 32 (.a9 none 1 30 31),o 33 (.ld false 1 32),o 34 (.len 33),m 35 3,o 36 (.bin .neq 34 35)]
def r8:=[o 2 (.b7 (.c (.bool false)))]
def r6:=[m 27 4,o 28 (.bin .add 27 (k 1)),m 4 28]
def r9:=[o 2 (.b7 (.c (.bool true)))]
def l1:=(s (s (d r5 [24,25]) (i 26 .skip (x 0))) (s (b 1 (s (d r7 [26,29,30,31,32,33,34,35]) (i 36 (s (d r8 [1,3,4,36]) .ret) .skip))) (d r6 [27,28,36])))
def c:=(s (d r0 [0,2]) (s (d r1 [5,6,7]) (s (s (d r2 [8,9,10,11,12,13,14,15,16,17,18,19,20,21,22]) (i 23 (s (d r3 [1,3,23]) .ret) .skip)) (s (s (d r4 [23]) (b 0 (w l1))) (s (d r9 [1,3,4,26]) .ret)))))
end L2
def L2:AFn:=⟨1,L2.c,[.tmp 2],false⟩
namespace L1
def r0:=[o 4 (.alloc 4 [(.bool false),.nil,.nil])]
def r1:=[o 7 (.call 124 [(k 0)]),o 5 (.alloc 5 [(.bool false),.nil,.nil]),n (.st 3 5 7)]
def r2:=[o 6 (.b7 (k 0))]
def r3:=[m 8 6,m 9 0,o 10 (.len 9),o 11 (.bin .lss 8 10)]
def r5:=[o 14 (.ld true 3 5),m 15 0,m 16 6,o 17 (.a9 none 3 15 16),o 18 (.ld true 3 17),m 19 1,m 20 6,o 21 (.a9 none 3 19 20),o 22 (.ld true 3 21),
 o 23 (.call 128 [18,22]),o 24 (.call 126 [14,23]),n (.st 3 5 24)]
def r4:=[m 12 6,o 13 (.bin .add 12 (k 1)),m 6 13]
def r6:=[o 25 (.ld true 3 5),n (.st 3 4 25)]
def l1:=(s (s (d r3 [8,9,10]) (i 11 .skip (x 0))) (s (b 1 (e r5 [11,14,15,16,17,18,19,20,21,22,23,24])) (d r4 [12,13])))
def c:=(s (p r0) (s (d r1 [7]) (s (s (p r2) (b 0 (w l1))) (s (d r6 [0,1,5,6,11,25]) .ret))))
end L1
def L1:AFn:=⟨2,L1.c,[.cell 4 true 3],false⟩
namespace L3
def r0:=[o 4 (.b7 (.c .nil))]
def r1:=[o 5 (.w9 138005 3)]
def r2:=[o 6 (.b7 (k 0))]
def r3:=[m 7 6,m 8 0,o 9 (.len 8),o 10 (.bin .lss 7 9)]
def r5:=[m 13 5,m 14 0,m 15 6,o 16 (.a9 none 1 14 15),o 17 (.ld false 1 16),m 18 1,o 19 (.call 137 [17,18]),o 20 (.c9 138020 3 [19]),
 o 21 (.app 138021 3 56 13 20),m 5 21]
def r4:=[m 11 6,o 12 (.bin .add 11 (k 1)),m 6 12]
def r6:=[m 22 5,m 4 22]
def l1:=(s (s (d r3 [7,8,9]) (i 10 .skip (x 0))) (s (b 1 (d r5 [10,13,14,15,16,17,18,19,20,21])) (d r4 [11,12])))
def c:=(s (d r0 [4]) (s (p r1) (s (s (p r2) (b 0 (w l1))) (s (d r6 [0,1,5,6,10,22]) .ret))))
end L3
def L3:AFn:=⟨2,L3.c,[.tmp 4],false⟩
structure o4 (L:Lib):Prop extends a7 L,a8 L where
 KF:L 130=some F.KF
 IO:L 131=some F.IO
 KG:L 132=some F.KG
 KE:L 133=some F.KE
 KD:L 134=some F.KD
 L2:L 136=some F.L2
 L1:L 137=some F.L1
 L3:L 138=some F.L3
end Go.c4.F

namespace Go.c4.F
open C
structure dv (L:Lib):Prop where
structure ns (L:Lib):Prop extends dv L where
structure km (L:Lib):Prop extends o4 L,ns L where
end Go.c4.F

namespace Go.c4.F
open C
namespace K7
def r0:=[o 1 (.box 1 0),o 2 (.alloc 2 [(.bool false),.nil,.nil])]
def r1:=[o 3 (.a5 1 0),o 4 (.a5 3 0),o 5 (.ld false 1 4),o 6 (.un .not 5),o 7 (.a5 1 0),o 8 (.a5 7 1),o 9 (.ld false 1 8),
 o 10 (.build [(.bool false),.nil] [(0,1,6),(1,1,9)]),o 11 (.a5 1 2),o 12 (.ld false 1 11),
 o 13 (.build [(.bool false),.nil,.nil] [(0,2,10),(2,1,12)]),n (.st 3 2 13)]
def c:=(s (d r0 [0]) (s (d r1 [1,3,4,5,6,7,8,9,10,11,12,13]) .ret))
end K7
def K7:AFn:=⟨1,K7.c,[.cell 2 true 3],false⟩
namespace K5
def r0:=[o 2 (.box 2 0),o 3 (.box 3 1),o 4 (.alloc 4 [(.bool false),.nil,.nil])]
def r1:=[o 5 (.ld true 3 2),o 6 (.ld true 3 3),o 7 (.k9 149 [6]),o 8 (.call 98 [5,7]),n (.st 3 4 8)]
def c:=(s (d r0 [0,1]) (s (e r1 [2,3,5,6,7,8]) .ret))
end K5
def K5:AFn:=⟨2,K5.c,[.cell 4 true 3],false⟩
structure af (L:Lib):Prop extends a7 L where
 K7:L 149=some F.K7
 K5:L 150=some F.K5
end Go.c4.F

namespace Go.c4.F
open C
namespace KZ
def r0:=[o 2 (.b7 (.c .nil))]
def r1:=[m 4 0,o 5 (.len 4),m 3 5]
def r2:=[m 6 3,o 7 (.bin .gtr 6 (k 0)),m 8 7,g 9 8 true (.b7 0),g 10 8 true (.b7 3),g 11 8 true (.bin .sub 10 (k 1)),g 12 8 true (.a9 none 3 9 11),
 g 13 8 true (.ld true 3 12),g 14 8 true (.call 97 [13]),g 15 8 true (.bin .eql 14 (k 0)),o 16 (.pick 8 15 (.c (.bool false)))]
def r3:=[m 17 3,o 18 (.bin .sub 17 (k 1)),m 3 18]
def r4:=[m 19 0,m 20 3,o 21 (.dc 3 19 none (some 20)),m 2 21]
def l1:=(s (s (d r2 [6,7,8,9,10,11,12,13,14,15]) (i 16 .skip (x 0))) (b 1 (d r3 [16,17,18])))
def c:=(s (d r0 [2]) (s (d r1 [4,5]) (s (b 0 (w l1)) (s (d r4 [0,3,16,19,20,21]) .ret))))
end KZ
def KZ:AFn:=⟨1,KZ.c,[.tmp 2],false⟩
structure gx (L:Lib):Prop extends a7 L where
 KZ:L 169=some F.KZ
end Go.c4.F

namespace Go.c4.F
open C
namespace LY
def r0:=[o 1 (.box 1 0),o 2 (.alloc 2 [(.bool false),.nil,.nil])]
def r1:=[o 3 (.ld true 3 1),o 4 (.call 123 [3]),n (.st 3 1 4)]
def r2:=[o 5 (.a5 1 0),o 6 (.ld true 2 5),o 7 (.call 114 [6]),o 8 (.a5 1 0),n (.st 2 8 7)]
def r3:=[o 9 (.ld true 3 1),n (.st 3 2 9)]
def c:=(s (d r0 [0]) (s (d r1 [3,4]) (s (d r2 [5,6,7,8]) (s (d r3 [1,9]) .ret))))
end LY
def LY:AFn:=⟨1,LY.c,[.cell 2 true 3],false⟩
structure di (L:Lib):Prop extends a8 L where
 LY:L 152=some F.LY
end Go.c4.F

namespace Go.c4.F
open C
structure kn (L:Lib):Prop extends di L where
structure nt (L:Lib):Prop extends km L,af L,gx L,kn L where
end Go.c4.F

namespace Go.c4.F
open C
namespace JO
def r0:=[o 2 (.box 2 0),o 3 (.box 3 1),o 4 (.b7 (k 0))]
def r1:=[o 7 (.ld true 2 2),o 8 (.call 86 [7]),o 9 (.ld true 2 3),o 10 (.call 86 [9]),m 5 8,m 6 10]
def r2:=[m 12 5,m 13 6,o 14 (.bin .lss 12 13),m 11 14]
def r3:=[o 4 (.b7 (k (-1)))]
def r4:=[m 16 5,m 17 6,o 18 (.bin .gtr 16 17),m 15 18]
def r5:=[o 4 (.b7 (k 1))]
def r6:=[m 20 5,o 21 (.bin .eql 20 (k (-1))),m 19 21]
def r7:=[o 22 (.a5 3 1),o 23 (.ld false 1 22),o 24 (.a5 2 1),o 25 (.ld false 1 24),o 26 (.call 67 [23,25]),m 4 26]
def r8:=[o 27 (.a5 2 1),o 28 (.ld false 1 27),o 29 (.a5 3 1),o 30 (.ld false 1 29),o 31 (.call 67 [28,30]),m 4 31]
def c:=(s (d r0 [0,1,4]) (s (e r1 [7,8,9,10]) (s (b 0 (s (d r2 [12,13,14]) (i 11 (s (d r3 [2,3,5,6,11]) .ret) (s (d r4 [6,11,16,17,18]) (i 15 (s (d r5 [2,3,5,15]) .ret) (s (d r6 [5,15,20,21]) (i 19 (s (d r7 [2,3,19,22,23,24,25,26]) .ret) .skip))))))) (s (d r8 [2,3,19,27,28,29,30,31]) .ret))))
end JO
def JO:AFn:=⟨2,JO.c,[.tmp 4],false⟩
namespace IP
def r0:=[o 2 (.box 2 0),o 3 (.box 3 1),o 4 (.b7 (k 0))]
def r1:=[q 7 [5,6] (.ld true 3 2),q 8 [5,6] (.k9 89 [7]),q 9 [5,6] (.ld true 3 3),q 10 [5,6] (.k9 89 [9]),
 o 5 (.alloc 5 [(.bool false),.nil,.nil,(.bool false)]),o 6 (.alloc 6 [(.bool false),.nil,.nil,(.bool false)]),n (.st 4 5 8),n (.st 4 6 10)]
def r2:=[o 11 (.a5 5 3),o 12 (.ld false 1 11),m 13 12,g 14 13 true (.a5 6 3),g 15 13 true (.ld false 1 14),o 16 (.pick 13 15 (.c (.bool false)))]
def r3:=[o 17 (.a5 5 0),o 18 (.a5 17 0),o 19 (.ld true 2 18),o 20 (.a5 6 0),o 21 (.a5 20 0),o 22 (.ld true 2 21),o 23 (.call 197 [19,22]),m 4 23]
def r4:=[o 24 (.a5 5 0),o 25 (.a5 24 0),o 26 (.ld true 2 25),o 27 (.a5 6 0),o 28 (.a5 27 2),o 29 (.ld false 1 28),o 30 (.k9 91 [29]),
 o 31 (.call 88 [26,30]),o 32 (.a5 6 0),o 33 (.a5 32 0),o 34 (.ld true 2 33),o 35 (.a5 5 0),o 36 (.a5 35 2),o 37 (.ld false 1 36),
 o 38 (.k9 91 [37]),o 39 (.call 88 [34,38]),o 40 (.call 197 [31,39]),m 4 40]
def c:=(s (d r0 [0,1,4]) (s (e r1 [2,3,7,8,9,10]) (s (s (d r2 [11,12,13,14,15]) (i 16 (s (d r3 [5,6,16,17,18,19,20,21,22,23]) .ret) .skip)) (s (e r4 [5,6,16,24,25,26,27,28,29,30,31,32,33,34,35,36,37,38,39,40]) .ret))))
end IP
def IP:AFn:=⟨2,IP.c,[.tmp 4],false⟩
namespace K2
def r0:=[o 1 (.box 1 0),o 2 (.alloc 2 [(.bool false),.nil,.nil])]
def r1:=[o 3 (.ld true 3 1),o 4 (.k9 149 [3]),o 5 (.call 95 [4]),n (.st 3 2 5)]
def c:=(s (d r0 [0]) (s (d r1 [1,3,4,5]) .ret))
end K2
def K2:AFn:=⟨1,K2.c,[.cell 2 true 3],false⟩
namespace KY
def r0:=[o 2 (.b7 (k 0))]
def r1:=[m 3 0,o 4 (.g6 169 [3]),o 5 (.len 4),o 6 (.bin .sub 5 (k 1)),m 2 6]
def c:=(s (d r0 [2]) (s (d r1 [0,3,4,5,6]) .ret))
end KY
def KY:AFn:=⟨1,KY.c,[.tmp 2],false⟩
namespace MA
def r0:=[o 1 (.box 1 0),o 2 (.b7 (.c (.bool false)))]
def r1:=[o 3 (.a5 1 0),o 4 (.ld false 1 3),o 5 (.call 200 [4]),o 6 (.bin .gtr 5 (k 48)),m 7 6,g 8 7 false (.a5 1 1),g 9 7 false (.ld false 1 8),
 g 10 7 false (.call 200 [9]),g 11 7 false (.bin .gtr 10 (k 48)),o 12 (.pick 7 (.c (.bool true)) 11)]
def r2:=[o 2 (.b7 (.c (.bool false)))]
def r3:=[o 13 (.a5 1 1),o 14 (.ld false 1 13),o 15 (.len 14),o 16 (.bin .gtr 15 (k 0)),m 17 16,g 18 17 true (.a5 1 1),g 19 17 true (.ld false 1 18),
 g 20 17 true (.a9 none 3 19 (k 0)),g 21 17 true (.ld true 3 20),g 22 17 true (.call 96 [(k 1)]),g 23 17 true (.call 198 [21,22]),
 g 24 17 true (.bin .eql 23 (k 0)),o 25 (.pick 17 24 (.c (.bool false))),m 2 25]
def c:=(s (d r0 [0,2]) (s (s (d r1 [3,4,5,6,7,8,9,10,11]) (i 12 (s (d r2 [1,12]) .ret) .skip)) (s (e r3 [1,12,13,14,15,16,17,18,19,20,21,22,23,24,25]) .ret)))
end MA
def MA:AFn:=⟨1,MA.c,[.tmp 2],false⟩
namespace MF
def r0:=[o 2 (.b7 (k 0))]
def r1:=[m 4 0,o 5 (.len 4),o 6 (.bin .sub 5 (k 1)),m 3 6]
def r2:=[m 7 3,o 8 (.bin .gtr 7 (k 0))]
def r4:=[m 11 0,m 12 3,o 13 (.a9 none 3 11 12),o 14 (.ld true 3 13),o 15 (.call 97 [14]),o 16 (.bin .neq 15 (k 0))]
def r5:=[m 17 3,m 2 17]
def r3:=[m 9 3,o 10 (.bin .sub 9 (k 1)),m 3 10]
def r6:=[o 2 (.b7 (k 0))]
def l1:=(s (s (d r2 [7]) (i 8 .skip (x 0))) (s (b 1 (s (d r4 [8,11,12,13,14,15]) (i 16 (s (d r5 [0,3,16,17]) .ret) .skip))) (d r3 [9,10,16])))
def c:=(s (d r0 [2]) (s (s (d r1 [4,5,6]) (b 0 (w l1))) (s (d r6 [0,3,8]) .ret)))
end MF
def MF:AFn:=⟨1,MF.c,[.tmp 2],false⟩
namespace ME
def r0:=[o 4 (.alloc 4 [(.bool false),.nil,.nil])]
def r1:=[m 5 1,m 6 0,o 7 (.len 6),o 8 (.bin .lss 5 7)]
def r2:=[m 9 0,m 10 1,o 11 (.a9 none 3 9 10),o 12 (.ld true 3 11),o 13 (.call 95 [12]),n (.st 3 4 13)]
def r3:=[o 14 (.call 96 [(k 0)]),n (.st 3 4 14)]
def c:=(s (p r0) (s (s (d r1 [5,6,7]) (i 8 (s (d r2 [0,1,8,9,10,11,12,13]) .ret) .skip)) (s (d r3 [0,1,8,14]) .ret)))
end ME
def ME:AFn:=⟨2,ME.c,[.cell 4 true 3],false⟩
namespace MG
def r0:=[o 2 (.b7 (.c .nil))]
def r1:=[m 5 0,o 6 (.mk 6 3 56 [(.bool false),.nil,.nil] 5 5),m 3 6]
def r2:=[m 7 0,o 8 (.b7 (k 0))]
def r3:=[o 9 (.bin .lss 8 7)]
def r4:=[m 10 8,m 4 10]
def r5:=[m 11 3,m 12 4,o 13 (.call 96 [(k 0)]),o 14 (.a9 none 3 11 12),n (.st 3 14 13)]
def r6:=[o 15 (.bin .add 8 (k 1)),m 8 15]
def r7:=[m 16 3,m 2 16]
def l1:=(s (p r3) (s (i 9 .skip (x 0)) (s (b 1 (s (d r4 [9,10]) (d r5 [4,11,12,13,14]))) (d r6 [15]))))
def c:=(s (d r0 [2]) (s (d r1 [5,6]) (s (s (d r2 [0]) (b 0 (w l1))) (s (d r7 [3,7,8,9,16]) .ret))))
end MG
def MG:AFn:=⟨1,MG.c,[.tmp 2],false⟩
namespace IV
def r0:=[o 1 (.box 1 0),o 2 (.alloc 2 [.nil,.nil,.nil,(.bool false),.nil,.nil]),o 3 (.b7 (k 0))]
def r1:=[o 10 (.ld true 2 1),o 11 (.call 201 [10]),o 12 (.un .not 11)]
def r2:=[o 13 (.build [.nil,.nil,.nil,(.bool false),.nil,.nil] []),n (.st 6 2 13),o 3 (.b7 (k 2))]
def r3:=[o 14 (.a5 1 0),o 15 (.ld false 1 14),o 16 (.call 204 [15]),o 17 (.a5 1 1),o 18 (.ld false 1 17),o 19 (.call 204 [18]),o 20 (.mm true [16,19]),
 m 4 20]
def r4:=[m 21 4,o 22 (.bin .gtr 21 (k 16))]
def r5:=[o 23 (.build [.nil,.nil,.nil,(.bool false),.nil,.nil] []),n (.st 6 2 23),o 3 (.b7 (k 12))]
def r6:=[o 24 (.a5 1 0),o 25 (.ld false 1 24),o 26 (.call 205 [25,(k 0)]),m 27 4,o 28 (.o6 28 206 [27]),
 o 29 (.build [.nil,.nil,.nil,(.bool false),.nil,.nil] [(3,3,26),(1,1,28)]),o 5 (.alloc 5 [.nil,.nil,.nil,(.bool false),.nil,.nil]),
 n (.st 6 5 29)]
def r7:=[m 30 4,o 31 (.bin .gtr 30 (k 0))]
def r8:=[o 32 (.a5 5 1),o 33 (.ld false 1 32),o 34 (.call 96 [(k 1)]),o 35 (.a9 none 3 33 (k 0)),n (.st 3 35 34)]
def r9:=[m 36 4,o 37 (.b7 (k 0))]
def CE:=[o 38 (.bin .lss 37 36)]
def CI:=[m 39 37,m 6 39]
def u9:=[m 40 4,o 41 (.o6 41 206 [40]),m 7 41]
def DH:=[m 42 6,o 43 (.bin .gtr 42 (k 0))]
def br:=[m 44 7,m 45 6,o 46 (.bin .sub 45 (k 1)),o 47 (.call 96 [(k 1)]),o 48 (.a9 none 3 44 46),n (.st 3 48 47)]
def db:=[m 49 4,o 50 (.b7 (k 0))]
def fg:=[o 51 (.bin .lss 50 49)]
def F4:=[m 52 50,m 8 52]
def fw:=[m 53 7,m 54 8,o 55 (.a5 1 1),o 56 (.ld false 1 55),m 57 8,o 58 (.bin .add 57 (k 1)),o 59 (.call 205 [56,58]),o 60 (.call 199 [59]),
 o 61 (.a9 none 3 53 54),n (.st 3 61 60)]
def jj:=[o 62 (.bin .add 50 (k 1)),m 50 62]
def mb:=[o 63 (.a5 5 0),o 64 (.ld false 1 63),m 65 7,o 66 (.c9 66 1 [65]),o 67 (.app 67 1 24 64 66),o 68 (.a5 5 0),n (.st 1 68 67)]
def nn:=[o 69 (.a5 1 0),q 70 [9] (.ld false 1 69),q 71 [9] (.call 205 [70,(k 0)]),o 72 (.a5 1 1),q 73 [9] (.ld false 1 72),
 m 74 6,o 75 (.bin .add 74 (k 1)),q 76 [9] (.call 205 [73,75]),q 77 [9] (.call 99 [71,76]),
 o 9 (.alloc 9 [(.bool false),.nil,.nil]),n (.st 3 9 77)]
def np:=[o 78 (.a5 5 2),q 79 [87] (.ld false 1 78),o 80 (.a5 1 0),o 81 (.ld false 1 80),m 82 6,o 83 (.bin .add 82 (k 1)),o 84 (.call 205 [81,83]),
 o 85 (.ld true 3 9),o 86 (.call 150 [84,85]),o 87 (.c9 87 3 [86]),o 88 (.app 88 3 56 79 87),o 89 (.a5 5 2),n (.st 1 89 88)]
def nq:=[o 90 (.bin .add 37 (k 1)),m 37 90]
def NW:=[o 91 (.ld true 6 5),n (.st 6 2 91),o 3 (.b7 (k 0))]
def l2:=(s (p fg) (s (i 51 .skip (x 2)) (s (b 3 (s (d F4 [51,52]) (d fw [8,53,54,55,56,57,58,59,60,61]))) (d jj [62]))))
def l1:=(s (p CE) (s (i 38 .skip (x 0)) (s (b 1 (s (d CI [38,39]) (s (d u9 [40,41]) (s (s (d DH [42]) (i 43 (d br [43,44,45,46,47,48]) (s (d db [43]) (b 2 (w l2))))) (s (d mb [7,49,50,51,63,64,65,66,67,68]) (s (e nn [69,70,71,72,73,74,75,76,77]) (e np [6,9,78,79,80,81,82,83,84,85,86,87,88,89]))))))) (d nq [90]))))
def c:=(s (d r0 [0,3]) (s (s (d r1 [10,11]) (i 12 (s (d r2 [1,12,13]) .ret) .skip)) (s (e r3 [12,14,15,16,17,18,19,20]) (s (s (d r4 [21]) (i 22 (s (d r5 [1,4,22,23]) .ret) .skip)) (s (d r6 [22,24,25,26,27,28,29]) (s (s (d r7 [30]) (i 31 (e r8 [31,32,33,34,35]) .skip)) (s (s (d r9 [31]) (b 0 (w l1))) (s (d NW [1,4,5,36,37,38,91]) .ret))))))))
end IV
def IV:AFn:=⟨1,IV.c,[.cell 2 true 6,.tmp 3],false⟩
structure o0 (L:Lib):Prop extends nt L where
 JO:L 197=some F.JO
 IP:L 198=some F.IP
 K2:L 199=some F.K2
 KY:L 200=some F.KY
 MA:L 201=some F.MA
 MF:L 204=some F.MF
 ME:L 205=some F.ME
 MG:L 206=some F.MG
 IV:L 207=some F.IV
end Go.c4.F

namespace Go.c4.F
open C
namespace K0
def r0:=[o 1 (.box 1 0),o 2 (.alloc 2 [(.bool false),.nil,.nil])]
def r1:=[o 3 (.a5 1 0),o 4 (.a5 3 1),o 5 (.ld false 1 4),o 6 (.build [(.bool false),.nil] [(1,1,5)]),o 7 (.a5 1 2),o 8 (.ld false 1 7),
 o 9 (.build [(.bool false),.nil,.nil] [(0,2,6),(2,1,8)]),o 10 (.call 95 [9]),n (.st 3 2 10)]
def c:=(s (d r0 [0]) (s (d r1 [1,3,4,5,6,7,8,9,10]) .ret))
end K0
def K0:AFn:=⟨1,K0.c,[.cell 2 true 3],false⟩
structure u5 (L:Lib):Prop extends o0 L where
 K0:L 256=some F.K0
end Go.c4.F

namespace Go.c4.F
open C
namespace KP
def r0:=[o 1 (.box 1 0),o 2 (.alloc 2 [(.bool false),.nil,.nil])]
def r1:=[o 3 (.ld true 3 1),o 4 (.call 95 [3]),o 5 (.ja 4 2 1 false),o 6 (.build [(.bool false),.nil] [(1,1,5)]),o 7 (.c9 7 1 [(.c (.int .u32 (1)))]),
 o 8 (.build [(.bool false),.nil,.nil] [(0,2,6),(2,1,7)]),n (.st 3 2 8)]
def c:=(s (d r0 [0]) (s (d r1 [1,3,4,5,6,7,8]) .ret))
end KP
def KP:AFn:=⟨1,KP.c,[.cell 2 true 3],false⟩
namespace KN
def r0:=[o 2 (.alloc 2 [(.bool false),.nil,.nil])]
def r1:=[o 10 (.call 96 [(k 1)]),o 3 (.alloc 3 [(.bool false),.nil,.nil]),n (.st 3 3 10)]
def r2:=[m 11 0,o 12 (.len 11),o 13 (.b7 (k 0))]
def r3:=[o 14 (.bin .lss 13 12)]
def r4:=[o 15 (.a9 none 1 11 13),o 16 (.ld false 1 15),m 5 16]
def r5:=[m 17 5,o 18 (.len 17),o 19 (.b7 (k 0))]
def r6:=[o 20 (.bin .lss 19 18)]
def r7:=[o 21 (.a9 none 3 17 19),o 22 (.ld true 3 21),o 7 (.alloc 7 [(.bool false),.nil,.nil]),n (.st 3 7 22)]
def r8:=[q 24 [8] (.ld true 3 3),q 25 [8] (.ld true 3 7),q 26 [8] (.call 294 [25]),q 27 [8] (.call 100 [24,26]),m 23 27,
 o 28 (.ext 23 0),o 29 (.ext 23 1),o 8 (.alloc 8 [(.bool false),.nil,.nil]),n (.st 3 8 28),m 9 29]
def r9:=[o 30 (.ld true 3 3),o 31 (.ld true 3 8),o 32 (.call 294 [31]),o 33 (.call 99 [30,32]),n (.st 3 3 33)]
def CE:=[o 34 (.bin .add 19 (k 1)),m 19 34]
def CI:=[o 35 (.bin .add 13 (k 1)),m 13 35]
def u9:=[o 36 (.ld true 3 3),n (.st 3 2 36)]
def l2:=(s (p r6) (s (i 20 .skip (x 2)) (s (b 3 (s (d r7 [20,21,22]) (s (e r8 [7,9,23,24,25,26,27,28,29]) (e r9 [8,30,31,32,33])))) (d CE [34]))))
def l1:=(s (p r3) (s (i 14 .skip (x 0)) (s (b 1 (s (d r4 [14,15,16]) (s (d r5 [5]) (b 2 (w l2))))) (d CI [17,18,19,20,35]))))
def c:=(s (p r0) (s (d r1 [10]) (s (s (d r2 [0]) (b 0 (w l1))) (s (d u9 [3,11,12,13,14,36]) .ret))))
end KN
def KN:AFn:=⟨1,KN.c,[.cell 2 true 3],false⟩
namespace KW
def r0:=[o 3 (.box 3 1),o 4 (.b7 (.c .nil))]
def r1:=[m 7 0,o 8 (.len 7),o 9 (.mk 9 3 56 [(.bool false),.nil,.nil] 8 8),m 5 9]
def r2:=[m 10 0,o 11 (.len 10),o 12 (.b7 (k 0))]
def r3:=[o 13 (.bin .lss 12 11)]
def r4:=[m 14 12,m 6 14]
def r5:=[m 15 5,m 16 6,m 17 0,m 18 6,o 19 (.a9 none 3 17 18),o 20 (.ld true 3 19),o 21 (.ld true 3 3),o 22 (.call 99 [20,21]),o 23 (.a9 none 3 15 16),
 n (.st 3 23 22)]
def r6:=[o 24 (.bin .add 12 (k 1)),m 12 24]
def r7:=[m 25 5,m 4 25]
def l1:=(s (p r3) (s (i 13 .skip (x 0)) (s (b 1 (s (d r4 [13,14]) (e r5 [6,15,16,17,18,19,20,21,22,23]))) (d r6 [24]))))
def c:=(s (d r0 [1,4]) (s (d r1 [7,8,9]) (s (s (d r2 [10]) (b 0 (w l1))) (s (d r7 [0,3,5,11,12,13,25]) .ret))))
end KW
def KW:AFn:=⟨2,KW.c,[.tmp 4],false⟩
namespace KQ
def r0:=[o 4 (.alloc 4 [(.bool false),.nil,.nil])]
def r1:=[o 7 (.call 96 [(k 0)]),o 5 (.alloc 5 [(.bool false),.nil,.nil]),n (.st 3 5 7)]
def r2:=[m 8 0,o 9 (.len 8),o 10 (.b7 (k 0))]
def r3:=[o 11 (.bin .lss 10 9)]
def r4:=[m 12 10,m 6 12]
def r5:=[m 13 0,m 14 6,o 15 (.a9 none 3 13 14),o 16 (.ld true 3 15),o 17 (.call 97 [16]),o 18 (.bin .neq 17 (k 0)),m 19 18,g 20 19 true (.b7 1),
 g 21 19 true (.b7 6),g 22 19 true (.a9 none 3 20 21),g 23 19 true (.ld true 3 22),g 24 19 true (.call 97 [23]),g 25 19 true (.bin .neq 24 (k 0)),
 o 26 (.pick 19 25 (.c (.bool false)))]
def r6:=[o 27 (.ld true 3 5),m 28 0,m 29 6,o 30 (.a9 none 3 28 29),o 31 (.ld true 3 30),m 32 1,m 33 6,o 34 (.a9 none 3 32 33),o 35 (.ld true 3 34),
 o 36 (.call 99 [31,35]),o 37 (.call 98 [27,36]),n (.st 3 5 37)]
def r7:=[o 38 (.bin .add 10 (k 1)),m 10 38]
def r8:=[o 39 (.ld true 3 5),n (.st 3 4 39)]
def l1:=(s (p r3) (s (i 11 .skip (x 0)) (s (b 1 (s (d r4 [11,12]) (s (d r5 [13,14,15,16,17,18,19,20,21,22,23,24,25]) (i 26 (e r6 [6,26,27,28,29,30,31,32,33,34,35,36,37]) .skip)))) (d r7 [6,26,38]))))
def c:=(s (p r0) (s (d r1 [7]) (s (s (d r2 [8]) (b 0 (w l1))) (s (d r8 [0,1,5,9,10,11,39]) .ret))))
end KQ
def KQ:AFn:=⟨2,KQ.c,[.cell 4 true 3],false⟩
namespace KM
def r0:=[o 4 (.b7 (.c .nil))]
def r1:=[m 7 0,o 8 (.len 7),o 9 (.mk 9 3 56 [(.bool false),.nil,.nil] 8 8),m 5 9]
def r2:=[m 10 0,o 11 (.len 10),o 12 (.b7 (k 0))]
def r3:=[o 13 (.bin .lss 12 11)]
def r4:=[m 14 12,m 6 14]
def r5:=[m 15 5,m 16 6,m 17 0,m 18 6,o 19 (.a9 none 1 17 18),o 20 (.ld false 1 19),m 21 1,o 22 (.call 297 [20,21]),o 23 (.a9 none 3 15 16),n (.st 3 23 22)]
def r6:=[o 24 (.bin .add 12 (k 1)),m 12 24]
def r7:=[m 25 5,m 4 25]
def l1:=(s (p r3) (s (i 13 .skip (x 0)) (s (b 1 (s (d r4 [13,14]) (d r5 [6,15,16,17,18,19,20,21,22,23]))) (d r6 [24]))))
def c:=(s (d r0 [4]) (s (d r1 [7,8,9]) (s (s (d r2 [10]) (b 0 (w l1))) (s (d r7 [0,1,5,11,12,13,25]) .ret))))
end KM
def KM:AFn:=⟨2,KM.c,[.tmp 4],false⟩
namespace KU
def r0:=[o 2 (.b7 (.c .nil))]
def r1:=[m 10 0,o 11 (.len 10),m 3 11]
def r2:=[m 12 3,o 13 (.mk 13 1 24 [.nil] 12 12),m 4 13]
def r3:=[m 14 3,o 15 (.b7 (k 0))]
def r4:=[o 16 (.bin .lss 15 14)]
def r5:=[m 17 15,m 5 17]
def r6:=[m 18 4,m 19 5,m 20 3,o 21 (.mk 21 3 56 [(.bool false),.nil,.nil] 20 20),o 22 (.a9 none 1 18 19),n (.st 1 22 21)]
def r7:=[o 23 (.bin .add 15 (k 1)),m 15 23]
def r8:=[m 24 3,o 25 (.mk 25 3 56 [(.bool false),.nil,.nil] 24 24),m 6 25]
def r9:=[m 26 3,o 27 (.b7 (k 0))]
def CE:=[o 28 (.bin .lss 27 26)]
def CI:=[m 29 27,m 7 29]
def u9:=[m 30 3,o 31 (.b7 (k 0))]
def DH:=[o 32 (.bin .lss 31 30)]
def br:=[m 33 31,m 8 33]
def db:=[m 34 6,m 35 8,m 36 0,m 37 8,o 38 (.a9 none 1 36 37),o 39 (.ld false 1 38),m 40 7,o 41 (.a9 none 3 39 40),o 42 (.ld true 3 41),
 o 43 (.a9 none 3 34 35),n (.st 3 43 42)]
def fg:=[o 44 (.bin .add 31 (k 1)),m 31 44]
def F4:=[m 45 3,o 46 (.b7 (k 0))]
def fw:=[o 47 (.bin .lss 46 45)]
def jj:=[m 48 46,m 9 48]
def mb:=[m 49 4,m 50 9,o 51 (.a9 none 1 49 50),o 52 (.ld false 1 51),m 53 7,m 54 0,m 55 9,o 56 (.a9 none 1 54 55),o 57 (.ld false 1 56),m 58 6,
 o 59 (.call 297 [57,58]),o 60 (.a9 none 3 52 53),n (.st 3 60 59)]
def nn:=[o 61 (.bin .add 46 (k 1)),m 46 61]
def np:=[o 62 (.bin .add 27 (k 1)),m 27 62]
def nq:=[m 63 4,m 2 63]
def l1:=(s (p r4) (s (i 16 .skip (x 0)) (s (b 1 (s (d r5 [16,17]) (d r6 [5,18,19,20,21,22]))) (d r7 [23]))))
def l3:=(s (p DH) (s (i 32 .skip (x 4)) (s (b 5 (s (d br [32,33]) (d db [8,34,35,36,37,38,39,40,41,42,43]))) (d fg [44]))))
def l4:=(s (p fw) (s (i 47 .skip (x 6)) (s (b 7 (s (d jj [47,48]) (e mb [9,49,50,51,52,53,54,55,56,57,58,59,60]))) (d nn [61]))))
def l2:=(s (p CE) (s (i 28 .skip (x 2)) (s (b 3 (s (d CI [28,29]) (s (s (p u9) (b 4 (w l3))) (s (d F4 [30,31,32]) (b 6 (w l4)))))) (d np [7,45,46,47,62]))))
def c:=(s (d r0 [2]) (s (d r1 [10,11]) (s (d r2 [12,13]) (s (s (p r3) (b 0 (w l1))) (s (d r8 [14,15,16,24,25]) (s (s (p r9) (b 2 (w l2))) (s (d nq [0,3,4,6,26,27,28,63]) .ret)))))))
end KU
def KU:AFn:=⟨1,KU.c,[.tmp 2],false⟩
namespace KX
def r0:=[o 2 (.alloc 2 [(.bool false),.nil,.nil])]
def r1:=[o 6 (.call 96 [(k 0)]),o 3 (.alloc 3 [(.bool false),.nil,.nil]),n (.st 3 3 6)]
def r2:=[m 7 0,o 8 (.len 7),o 9 (.b7 (k 0))]
def r3:=[o 10 (.bin .lss 9 8)]
def r4:=[o 11 (.a9 none 3 7 9),o 12 (.ld true 3 11),o 5 (.alloc 5 [(.bool false),.nil,.nil]),n (.st 3 5 12)]
def r5:=[o 13 (.ld true 3 3),o 14 (.ld true 3 5),o 15 (.call 256 [14]),o 16 (.call 98 [13,15]),n (.st 3 3 16)]
def r6:=[o 17 (.bin .add 9 (k 1)),m 9 17]
def r7:=[o 18 (.ld true 3 3),n (.st 3 2 18)]
def l1:=(s (p r3) (s (i 10 .skip (x 0)) (s (b 1 (s (d r4 [10,11,12]) (e r5 [5,13,14,15,16]))) (d r6 [17]))))
def c:=(s (p r0) (s (d r1 [6]) (s (s (d r2 [0]) (b 0 (w l1))) (s (d r7 [3,7,8,9,10,18]) .ret))))
end KX
def KX:AFn:=⟨1,KX.c,[.cell 2 true 3],false⟩
namespace KT
def r0:=[o 2 (.alloc 2 [(.bool false),.nil,.nil])]
def r1:=[o 7 (.call 96 [(k 0)]),o 3 (.alloc 3 [(.bool false),.nil,.nil]),n (.st 3 3 7)]
def r2:=[m 8 0,o 9 (.len 8),o 10 (.b7 (k 0))]
def r3:=[o 11 (.bin .lss 10 9)]
def r4:=[o 12 (.a9 none 3 8 10),o 13 (.ld true 3 12),o 5 (.alloc 5 [(.bool false),.nil,.nil]),n (.st 3 5 13)]
def r5:=[o 14 (.ld true 3 5),o 15 (.call 256 [14]),o 6 (.alloc 6 [(.bool false),.nil,.nil]),n (.st 3 6 15)]
def r6:=[o 16 (.ld true 3 6),o 17 (.ld true 3 3),o 18 (.call 198 [16,17]),o 19 (.bin .gtr 18 (k 0))]
def r7:=[o 20 (.ld true 3 6),n (.st 3 3 20)]
def r8:=[o 21 (.bin .add 10 (k 1)),m 10 21]
def r9:=[o 22 (.ld true 3 3),n (.st 3 2 22)]
def l1:=(s (p r3) (s (i 11 .skip (x 0)) (s (b 1 (s (d r4 [11,12,13]) (s (d r5 [5,14,15]) (s (d r6 [16,17,18]) (i 19 (d r7 [6,19,20]) .skip))))) (d r8 [6,19,21]))))
def c:=(s (p r0) (s (d r1 [7]) (s (s (d r2 [0]) (b 0 (w l1))) (s (d r9 [3,8,9,10,11,22]) .ret))))
end KT
def KT:AFn:=⟨1,KT.c,[.cell 2 true 3],false⟩
namespace KO
def r0:=[o 3 (.box 3 1),o 4 (.b7 (.c (.bool false)))]
def r1:=[m 8 0,o 9 (.len 8),o 10 (.b7 (k 0))]
def r2:=[o 11 (.bin .lss 10 9)]
def r3:=[o 12 (.a9 none 1 8 10),o 13 (.ld false 1 12),m 6 13]
def r4:=[m 14 6,o 15 (.call 300 [14]),o 7 (.alloc 7 [(.bool false),.nil,.nil]),n (.st 3 7 15)]
def r5:=[o 16 (.ld true 3 7),o 17 (.ld true 3 7),o 18 (.call 98 [16,17]),o 19 (.ld true 3 3),o 20 (.call 198 [18,19]),o 21 (.bin .gtr 20 (k 0))]
def r6:=[o 4 (.b7 (.c (.bool false)))]
def r7:=[o 22 (.bin .add 10 (k 1)),m 10 22]
def r8:=[o 4 (.b7 (.c (.bool true)))]
def l1:=(s (p r2) (s (i 11 .skip (x 0)) (s (b 1 (s (d r3 [11,12,13]) (s (d r4 [6,14,15]) (s (e r5 [7,16,17,18,19,20]) (i 21 (s (d r6 [3,8,9,10,21]) .ret) .skip))))) (d r7 [21,22]))))
def c:=(s (d r0 [1,4]) (s (s (d r1 [0]) (b 0 (w l1))) (s (d r8 [3,8,9,10,11]) .ret)))
end KO
def KO:AFn:=⟨2,KO.c,[.tmp 4],false⟩
namespace KV
def r0:=[o 2 (.alloc 2 [.nil,(.bool false),.nil,.nil,z,(.bool false),.nil,.nil]),o 3 (.b7 (k 0))]
def r1:=[m 9 0,o 10 (.call 295 [9]),o 11 (.call 96 [(k 1)]),
 o 12 (.build [.nil,(.bool false),.nil,.nil,z,(.bool false),.nil,.nil] [(1,3,10),(4,1,(k 1)),(5,3,11)]),
 o 4 (.alloc 4 [.nil,(.bool false),.nil,.nil,z,(.bool false),.nil,.nil]),n (.st 8 4 12)]
def r2:=[m 13 0,o 14 (.len 13),o 15 (.b7 (k 0))]
def r3:=[o 16 (.bin .lss 15 14)]
def r4:=[o 17 (.a9 none 1 13 15),o 18 (.ld false 1 17),m 6 18]
def r5:=[o 19 (.a5 4 0),q 20 [25] (.ld false 1 19),m 21 6,o 22 (.a5 4 1),o 23 (.ld true 3 22),o 24 (.call 296 [21,23]),o 25 (.c9 25 1 [24]),
 o 26 (.app 26 1 24 20 25),o 27 (.a5 4 0),n (.st 1 27 26)]
def r6:=[o 28 (.bin .add 15 (k 1)),m 15 28]
def r7:=[o 29 (.a5 4 0),q 30 [8] (.ld false 1 29),o 31 (.a5 4 1),q 32 [8] (.ld true 3 31),o 8 (.alloc 8 [(.bool false),.nil,.nil]),
 m 7 30,n (.st 3 8 32)]
def r8:=[m 33 7,o 34 (.ld true 3 8),o 35 (.call 302 [33,34]),o 36 (.un .not 35)]
def r9:=[o 37 (.a5 4 4),o 38 (.ld false 1 37),o 39 (.bin .eql 38 (k 64))]
def CE:=[o 40 (.build [.nil,(.bool false),.nil,.nil,z,(.bool false),.nil,.nil] []),n (.st 8 2 40),o 3 (.b7 (k 14))]
def CI:=[m 41 7,o 42 (.call 299 [41]),o 43 (.ld true 3 8),o 44 (.ld true 3 8),o 45 (.call 99 [43,44]),m 7 42,n (.st 3 8 45)]
def u9:=[o 46 (.a5 4 4),o 47 (.ld false 1 46),o 48 (.bin .mul 47 (k 2)),o 49 (.a5 4 4),n (.st 1 49 48)]
def DH:=[o 50 (.a5 4 4),o 51 (.ld false 1 50),o 52 (.bin .mul (k 2) 51),o 53 (.bin .sub 52 (k 1)),o 54 (.b7 (k 0))]
def br:=[o 55 (.bin .lss 54 53)]
def db:=[o 56 (.a5 4 5),o 57 (.ld true 3 56),o 58 (.a5 4 1),o 59 (.ld true 3 58),o 60 (.call 99 [57,59]),o 61 (.a5 4 5),n (.st 3 61 60)]
def fg:=[o 62 (.bin .add 54 (k 1)),m 54 62]
def F4:=[o 63 (.ld true 8 4),n (.st 8 2 63),o 3 (.b7 (k 0))]
def l1:=(s (p r3) (s (i 16 .skip (x 0)) (s (b 1 (s (d r4 [16,17,18]) (e r5 [6,19,20,21,22,23,24,25,26,27]))) (d r6 [28]))))
def l2:=(s (s (d r8 [33,34,35]) (i 36 .skip (x 2))) (b 3 (s (s (d r9 [36,37,38]) (i 39 (s (d CE [4,7,8,39,40]) .ret) .skip)) (s (e CI [39,41,42,43,44,45]) (d u9 [46,47,48,49])))))
def l3:=(s (p br) (s (i 55 .skip (x 4)) (s (b 5 (d db [55,56,57,58,59,60,61])) (d fg [62]))))
def c:=(s (d r0 [3]) (s (d r1 [9,10,11,12]) (s (s (d r2 [0]) (b 0 (w l1))) (s (e r7 [13,14,15,16,29,30,31,32]) (s (b 2 (w l2)) (s (s (d DH [7,8,36,50,51,52]) (b 4 (w l3))) (s (d F4 [4,53,54,55,63]) .ret)))))))
end KV
def KV:AFn:=⟨1,KV.c,[.cell 2 true 8,.tmp 3],false⟩
namespace KS
def r0:=[o 2 (.box 2 0),o 4 (.alloc 4 [.nil,(.bool false),.nil,.nil])]
def r1:=[o 8 (.call 96 [(k 0)]),o 9 (.build [.nil,(.bool false),.nil,.nil] [(1,3,8)]),o 5 (.alloc 5 [.nil,(.bool false),.nil,.nil]),n (.st 4 5 9)]
def r2:=[m 10 1,m 6 10]
def r3:=[o 11 (.a5 2 4),o 12 (.ld false 1 11),o 13 (.bin .mul (k 2) 12),o 14 (.b7 (k 0))]
def r4:=[o 15 (.bin .lss 14 13)]
def r5:=[m 16 14,m 7 16]
def r6:=[m 17 7,o 18 (.bin .gtr 17 (k 0))]
def r7:=[o 19 (.a5 2 0),o 20 (.ld false 1 19),m 21 6,o 22 (.call 298 [20,21]),m 6 22]
def r8:=[o 23 (.a5 5 0),o 24 (.ld false 1 23),m 25 6,o 26 (.c9 26 1 [25]),o 27 (.app 27 1 24 24 26),o 28 (.a5 5 0),n (.st 1 28 27)]
def r9:=[m 29 7,o 30 (.a5 2 4),o 31 (.ld false 1 30),o 32 (.bin .geq 29 31)]
def CE:=[o 33 (.a5 5 1),o 34 (.ld true 3 33),o 35 (.a5 2 1),o 36 (.ld true 3 35),o 37 (.call 99 [34,36]),m 38 6,o 39 (.call 301 [38]),
 o 40 (.call 98 [37,39]),o 41 (.a5 5 1),n (.st 3 41 40)]
def CI:=[o 42 (.bin .add 14 (k 1)),m 14 42]
def u9:=[o 43 (.ld true 4 5),n (.st 4 4 43)]
def l1:=(s (p r4) (s (i 15 .skip (x 0)) (s (b 1 (s (d r5 [15,16]) (s (s (d r6 [17]) (i 18 (d r7 [18,19,20,21,22]) .skip)) (s (d r8 [18,23,24,25,26,27,28]) (s (d r9 [7,29,30,31]) (i 32 (d CE [32,33,34,35,36,37,38,39,40,41]) .skip)))))) (d CI [32,42]))))
def c:=(s (d r0 [0]) (s (d r1 [8,9]) (s (d r2 [1,10]) (s (s (d r3 [11,12]) (b 0 (w l1))) (s (d u9 [2,5,6,13,14,15,43]) .ret)))))
end KS
def KS:AFn:=⟨2,KS.c,[.cell 4 true 4],false⟩
namespace KR
def r0:=[o 3 (.box 3 0),o 5 (.box 5 2),o 6 (.alloc 6 [(.bool false),.nil,.nil])]
def r1:=[o 10 (.call 96 [(k 0)]),o 7 (.alloc 7 [(.bool false),.nil,.nil]),n (.st 3 7 10)]
def r2:=[o 11 (.a5 5 0),o 12 (.ld false 1 11),o 13 (.len 12),o 14 (.b7 (k 0))]
def r3:=[o 15 (.bin .lss 14 13)]
def r4:=[o 16 (.a9 none 1 12 14),o 17 (.ld false 1 16),m 9 17]
def r5:=[o 18 (.ld true 3 7),o 19 (.a5 3 1),o 20 (.ld true 3 19),o 21 (.call 99 [18,20]),m 22 1,m 23 9,o 24 (.call 297 [22,23]),o 25 (.call 256 [24]),
 o 26 (.call 98 [21,25]),n (.st 3 7 26)]
def r6:=[o 27 (.bin .add 14 (k 1)),m 14 27]
def r7:=[o 28 (.ld true 3 7),m 29 1,o 30 (.call 300 [29]),o 31 (.a5 5 1),o 32 (.ld true 3 31),o 33 (.call 99 [30,32]),o 34 (.call 98 [28,33]),n (.st 3 6 34)]
def l1:=(s (p r3) (s (i 15 .skip (x 0)) (s (b 1 (s (d r4 [15,16,17]) (d r5 [9,18,19,20,21,22,23,24,25,26]))) (d r6 [27]))))
def c:=(s (d r0 [0,2]) (s (d r1 [10]) (s (s (d r2 [11]) (b 0 (w l1))) (s (e r7 [1,3,5,7,12,13,14,15,28,29,30,31,32,33,34]) .ret))))
end KR
def KR:AFn:=⟨3,KR.c,[.cell 6 true 3],false⟩
namespace KL
def r0:=[o 1 (.box 1 0),o 2 (.alloc 2 [(.bool false),.nil,.nil]),o 3 (.b7 (k 0))]
def r1:=[o 11 (.ld true 6 1),o 12 (.call 130 [11]),o 13 (.un .not 12),m 14 13,g 15 14 false (.a5 1 0),g 16 14 false (.ld false 1 15),g 17 14 false (.len 16),
 g 18 14 false (.bin .gtr 17 (k 16)),o 19 (.pick 14 (.c (.bool true)) 18)]
def r2:=[o 20 (.build [(.bool false),.nil,.nil] []),n (.st 3 2 20),o 3 (.b7 (k 2))]
def r3:=[o 22 (.a5 1 0),o 23 (.ld false 1 22),o 24 (.call 303 [23]),m 21 24,o 25 (.ext 21 0),o 26 (.ext 21 1),
 o 4 (.alloc 4 [.nil,(.bool false),.nil,.nil,z,(.bool false),.nil,.nil]),n (.st 8 4 25),m 5 26]
def r4:=[m 27 5,o 28 (.bin .neq 27 (k 0))]
def r5:=[o 29 (.build [(.bool false),.nil,.nil] []),m 30 5,n (.st 3 2 29),m 3 30]
def r6:=[o 31 (.a5 1 1),q 32 [37,6,7] (.ld false 1 31),o 33 (.c9 33 1 [32]),q 34 [37,6,7] (.call 295 [33]),o 35 (.a5 1 2),
 q 36 [33,6,7] (.ld false 1 35),o 37 (.c9 37 1 [36]),q 38 [6,7] (.call 295 [37]),o 6 (.alloc 6 [(.bool false),.nil,.nil]),
 o 7 (.alloc 7 [(.bool false),.nil,.nil]),n (.st 3 6 34),n (.st 3 7 38)]
def r7:=[q 39 [8] (.ld true 8 4),o 40 (.a5 1 2),q 41 [8] (.ld false 1 40),q 42 [8] (.ld true 3 7),
 q 43 [8] (.call 296 [41,42]),q 44 [8] (.ld true 8 4),o 45 (.a5 1 1),q 46 [8] (.ld false 1 45),
 q 47 [8] (.ld true 3 6),q 48 [8] (.call 296 [46,47]),q 49 [8] (.k9 304 [44,48]),
 q 50 [8] (.call 305 [39,43,49]),o 8 (.alloc 8 [(.bool false),.nil,.nil]),n (.st 3 8 50)]
def r8:=[q 52 [9] (.ld true 3 8),o 53 (.a5 4 5),q 54 [9] (.ld true 3 53),q 55 [9] (.ld true 3 6),
 q 56 [9] (.ld true 3 7),q 57 [9] (.call 99 [55,56]),q 58 [9] (.call 99 [54,57]),q 59 [9] (.call 100 [52,58]),
 m 51 59,o 60 (.ext 51 0),o 61 (.ext 51 1),o 9 (.alloc 9 [(.bool false),.nil,.nil]),n (.st 3 9 60),m 10 61]
def r9:=[o 62 (.a5 1 3),o 63 (.ld true 3 62),o 64 (.call 256 [63]),o 65 (.ld true 3 9),o 66 (.call 98 [64,65]),n (.st 3 2 66),o 3 (.b7 (k 0))]
def c:=(s (d r0 [0,3]) (s (s (d r1 [11,12,13,14,15,16,17,18]) (i 19 (s (d r2 [1,19,20]) .ret) .skip)) (s (d r3 [19,21,22,23,24,25,26]) (s (s (d r4 [27]) (i 28 (s (d r5 [1,4,5,28,29,30]) .ret) .skip)) (s (e r6 [5,28,31,32,33,34,35,36,37,38]) (s (e r7 [39,40,41,42,43,44,45,46,47,48,49,50]) (s (e r8 [4,6,7,8,10,51,52,53,54,55,56,57,58,59,60,61]) (s (e r9 [1,9,62,63,64,65,66]) .ret))))))))
end KL
def KL:AFn:=⟨1,KL.c,[.cell 2 true 3,.tmp 3],false⟩
structure n7 (L:Lib):Prop extends u5 L where
 KP:L 294=some F.KP
 KN:L 295=some F.KN
 KW:L 296=some F.KW
 KQ:L 297=some F.KQ
 KM:L 298=some F.KM
 KU:L 299=some F.KU
 KX:L 300=some F.KX
 KT:L 301=some F.KT
 KO:L 302=some F.KO
 KV:L 303=some F.KV
 KS:L 304=some F.KS
 KR:L 305=some F.KR
 KL:L 307=some F.KL
end Go.c4.F

namespace Go.c4.F
open C
namespace LI
def r0:=[o 1 (.box 1 0),o 2 (.alloc 2 [(.bool false),.nil])]
def r1:=[o 3 (.a5 1 1),o 4 (.ld false 1 3),o 5 (.call 101 [4]),o 6 (.build [(.bool false),.nil] [(1,1,5)]),n (.st 2 2 6)]
def c:=(s (d r0 [0]) (s (d r1 [1,3,4,5,6]) .ret))
end LI
def LI:AFn:=⟨1,LI.c,[.cell 2 true 2],false⟩
namespace LT
def r0:=[o 1 (.box 1 0),o 2 (.alloc 2 [(.bool false),.nil,.nil])]
def r1:=[o 3 (.ld true 3 1),o 4 (.call 123 [3]),n (.st 3 1 4)]
def r2:=[o 5 (.a5 1 0),o 6 (.ld true 2 5),o 7 (.call 308 [6]),o 8 (.a5 1 0),n (.st 2 8 7)]
def r3:=[o 9 (.ld true 3 1),n (.st 3 2 9)]
def c:=(s (d r0 [0]) (s (d r1 [3,4]) (s (d r2 [5,6,7,8]) (s (d r3 [1,9]) .ret))))
end LT
def LT:AFn:=⟨1,LT.c,[.cell 2 true 3],false⟩
namespace L8
def r0:=[o 2 (.b7 (.c (.bool false)))]
def r1:=[o 3 (.b7 (k 0))]
def r2:=[m 4 3,m 5 0,o 6 (.len 5),o 7 (.bin .lss 4 6)]
def r4:=[m 10 0,m 11 3,o 12 (.a9 none 1 10 11),o 13 (.ld false 1 12),o 14 (.len 13),m 15 0,o 16 (.len 15),o 17 (.bin .neq 14 16)]
def r5:=[o 2 (.b7 (.c (.bool false)))]
def r3:=[m 8 3,o 9 (.bin .add 8 (k 1)),m 3 9]
def r6:=[m 18 0,o 19 (.len 18),o 20 (.bin .leq 19 (k 16)),m 2 20]
def l1:=(s (s (d r2 [4,5,6]) (i 7 .skip (x 0))) (s (b 1 (s (d r4 [7,10,11,12,13,14,15,16]) (i 17 (s (d r5 [0,3,17]) .ret) .skip))) (d r3 [8,9,17])))
def c:=(s (d r0 [2]) (s (s (p r1) (b 0 (w l1))) (s (d r6 [0,3,7,18,19,20]) .ret)))
end L8
def L8:AFn:=⟨1,L8.c,[.tmp 2],false⟩
namespace L6
def r0:=[o 2 (.alloc 2 [(.bool false),.nil,.nil])]
def r1:=[o 5 (.call 124 [(k 0)]),o 3 (.alloc 3 [(.bool false),.nil,.nil]),n (.st 3 3 5)]
def r2:=[o 4 (.b7 (k 0))]
def r3:=[m 6 4,m 7 0,o 8 (.len 7),o 9 (.bin .lss 6 8)]
def r5:=[o 12 (.ld true 3 3),m 13 0,m 14 4,o 15 (.a9 none 3 13 14),o 16 (.ld true 3 15),o 17 (.call 309 [16]),o 18 (.call 126 [12,17]),n (.st 3 3 18)]
def r4:=[m 10 4,o 11 (.bin .add 10 (k 1)),m 4 11]
def r6:=[o 19 (.ld true 3 3),n (.st 3 2 19)]
def l1:=(s (s (d r3 [6,7,8]) (i 9 .skip (x 0))) (s (b 1 (e r5 [9,12,13,14,15,16,17,18])) (d r4 [10,11])))
def c:=(s (p r0) (s (d r1 [5]) (s (s (p r2) (b 0 (w l1))) (s (d r6 [0,3,4,9,19]) .ret))))
end L6
def L6:AFn:=⟨1,L6.c,[.cell 2 true 3],false⟩
namespace L4
def r0:=[o 2 (.alloc 2 [(.bool false),.nil,.nil])]
def r1:=[o 5 (.call 124 [(k 0)]),o 3 (.alloc 3 [(.bool false),.nil,.nil]),n (.st 3 3 5)]
def r2:=[o 4 (.b7 (k 0))]
def r3:=[m 6 4,m 7 0,o 8 (.len 7),o 9 (.bin .lss 6 8)]
def r5:=[m 12 0,m 13 4,o 14 (.a9 none 3 12 13),o 15 (.ld true 3 14),o 16 (.call 309 [15]),o 17 (.ld true 3 3),o 18 (.call 127 [16,17]),
 o 19 (.bin .gtr 18 (k 0))]
def r6:=[m 20 0,m 21 4,o 22 (.a9 none 3 20 21),o 23 (.ld true 3 22),o 24 (.call 309 [23]),n (.st 3 3 24)]
def r4:=[m 10 4,o 11 (.bin .add 10 (k 1)),m 4 11]
def r7:=[o 25 (.ld true 3 3),n (.st 3 2 25)]
def l1:=(s (s (d r3 [6,7,8]) (i 9 .skip (x 0))) (s (b 1 (s (e r5 [9,12,13,14,15,16,17,18]) (i 19 (d r6 [19,20,21,22,23,24]) .skip))) (d r4 [10,11,19])))
def c:=(s (p r0) (s (d r1 [5]) (s (s (p r2) (b 0 (w l1))) (s (d r7 [0,3,4,9,25]) .ret))))
end L4
def L4:AFn:=⟨1,L4.c,[.cell 2 true 3],false⟩
namespace L9
def r0:=[o 2 (.b7 (.c .nil))]
def r1:=[m 8 0,o 9 (.len 8),o 10 (.mk 10 1 24 [.nil] 9 9),m 3 10]
def r2:=[o 4 (.b7 (k 0))]
def r3:=[m 11 4,m 12 0,o 13 (.len 12),o 14 (.bin .lss 11 13)]
def r5:=[o 5 (.b7 (k 0))]
def r6:=[m 17 5,m 18 0,o 19 (.len 18),o 20 (.bin .lss 17 19)]
def r8:=[o 23 (.call 124 [(k 0)]),o 6 (.alloc 6 [(.bool false),.nil,.nil]),n (.st 3 6 23)]
def r9:=[o 7 (.b7 (k 0))]
def CE:=[m 24 7,m 25 0,o 26 (.len 25),o 27 (.bin .lss 24 26)]
def u9:=[o 30 (.ld true 3 6),m 31 0,m 32 4,o 33 (.a9 none 1 31 32),o 34 (.ld false 1 33),m 35 7,o 36 (.a9 none 3 34 35),o 37 (.ld true 3 36),m 38 0,m 39 7,
 o 40 (.a9 none 1 38 39),o 41 (.ld false 1 40),m 42 5,o 43 (.a9 none 3 41 42),o 44 (.ld true 3 43),o 45 (.call 128 [37,44]),
 o 46 (.call 126 [30,45]),n (.st 3 6 46)]
def CI:=[m 28 7,o 29 (.bin .add 28 (k 1)),m 7 29]
def DH:=[m 47 3,m 48 4,m 49 3,m 50 4,o 51 (.a9 none 1 49 50),q 52 [54] (.ld false 1 51),o 53 (.ld true 3 6),o 54 (.c9 54 3 [53]),
 o 55 (.app 55 3 56 52 54),o 56 (.a9 none 1 47 48),n (.st 1 56 55)]
def r7:=[m 21 5,o 22 (.bin .add 21 (k 1)),m 5 22]
def r4:=[m 15 4,o 16 (.bin .add 15 (k 1)),m 4 16]
def br:=[m 57 3,m 2 57]
def l3:=(s (s (d CE [24,25,26]) (i 27 .skip (x 4))) (s (b 5 (e u9 [27,30,31,32,33,34,35,36,37,38,39,40,41,42,43,44,45,46])) (d CI [28,29])))
def l2:=(s (s (d r6 [17,18,19]) (i 20 .skip (x 2))) (s (b 3 (s (d r8 [20,23]) (s (s (p r9) (b 4 (w l3))) (e DH [6,7,27,47,48,49,50,51,52,53,54,55,56])))) (d r7 [21,22])))
def l1:=(s (s (d r3 [11,12,13]) (i 14 .skip (x 0))) (s (b 1 (s (d r5 [14]) (b 2 (w l2)))) (d r4 [5,15,16,20])))
def c:=(s (d r0 [2]) (s (d r1 [8,9,10]) (s (s (p r2) (b 0 (w l1))) (s (d br [0,3,4,14,57]) .ret))))
end L9
def L9:AFn:=⟨1,L9.c,[.tmp 2],false⟩
namespace L5
def r0:=[o 2 (.b7 (k 0)),o 3 (.b7 (k 0))]
def r1:=[m 7 0,o 8 (.call 310 [7]),o 9 (.un .not 8)]
def r2:=[o 2 (.b7 (k 0)),o 3 (.b7 (k 2))]
def r3:=[o 4 (.b7 (k 1))]
def r4:=[m 10 4,o 11 (.bin .leq 10 (k 64))]
def r6:=[o 5 (.b7 (.c (.bool true)))]
def r7:=[o 6 (.b7 (k 0))]
def r8:=[m 14 6,m 15 0,o 16 (.len 15),o 17 (.bin .lss 14 16)]
def CE:=[m 20 5,m 21 20,g 22 21 true (.b7 0),g 23 21 true (.b7 6),g 24 21 true (.a9 none 1 22 23),g 25 21 true (.ld false 1 24),g 26 21 true (.call 311 [25]),
 g 27 21 true (.call 125 [(k 1),(k 2)]),g 28 21 true (.call 127 [26,27]),g 29 21 true (.bin .leq 28 (k 0)),o 30 (.pick 21 29 (.c (.bool false))),m 5 30]
def r9:=[m 18 6,o 19 (.bin .add 18 (k 1)),m 6 19]
def CI:=[m 31 5]
def u9:=[m 32 4,m 2 32,o 3 (.b7 (k 0))]
def DH:=[m 33 0,o 34 (.call 313 [33]),m 0 34]
def r5:=[m 12 4,o 13 (.bin .mul (k 2) 12),m 4 13]
def br:=[o 2 (.b7 (k 0)),o 3 (.b7 (k 14))]
def l2:=(s (s (d r8 [14,15,16]) (i 17 .skip (x 2))) (s (b 3 (d CE [17,20,21,22,23,24,25,26,27,28,29,30])) (d r9 [18,19])))
def l1:=(s (s (d r4 [10]) (i 11 .skip (x 0))) (s (b 1 (s (d r6 [11]) (s (s (p r7) (b 2 (w l2))) (s (s (d CI [5,6,17]) (i 31 (s (d u9 [0,4,31,32]) .ret) .skip)) (d DH [31,33,34]))))) (d r5 [12,13])))
def c:=(s (d r0 [2,3]) (s (s (d r1 [7,8]) (i 9 (s (d r2 [0,9]) .ret) .skip)) (s (s (d r3 [9]) (b 0 (w l1))) (s (d br [0,4,11]) .ret))))
end L5
def L5:AFn:=⟨1,L5.c,[.tmp 2,.tmp 3],false⟩
namespace L7
def r0:=[o 1 (.box 1 0),o 2 (.alloc 2 [(.bool false),.nil,.nil]),o 3 (.b7 (k 0))]
def r1:=[o 9 (.ld true 6 1),o 10 (.call 136 [9]),o 11 (.un .not 10),m 12 11,g 13 12 false (.a5 1 0),g 14 12 false (.ld false 1 13),g 15 12 false (.len 14),
 g 16 12 false (.bin .gtr 15 (k 16)),o 17 (.pick 12 (.c (.bool true)) 16)]
def r2:=[o 18 (.build [(.bool false),.nil,.nil] []),n (.st 3 2 18),o 3 (.b7 (k 2))]
def r3:=[o 20 (.a5 1 0),o 21 (.ld false 1 20),o 22 (.call 314 [21]),m 19 22,o 23 (.ext 19 0),o 24 (.ext 19 1),m 4 23,m 5 24]
def r4:=[m 25 5,o 26 (.bin .neq 25 (k 0))]
def r5:=[o 27 (.build [(.bool false),.nil,.nil] []),m 28 5,n (.st 3 2 27),m 3 28]
def r6:=[o 29 (.a5 1 3),o 30 (.ld true 3 29),o 31 (.call 309 [30]),o 6 (.alloc 6 [(.bool false),.nil,.nil]),n (.st 3 6 31)]
def r7:=[o 32 (.a5 1 1),o 33 (.ld false 1 32),m 7 33]
def r8:=[o 8 (.b7 (k 0))]
def r9:=[m 34 8,m 35 4,o 36 (.bin .mul (k 2) 35),o 37 (.bin .lss 34 36)]
def CI:=[o 40 (.ld true 3 6),o 41 (.a5 1 2),o 42 (.ld false 1 41),m 43 7,o 44 (.call 137 [42,43]),o 45 (.call 309 [44]),o 46 (.call 126 [40,45]),
 n (.st 3 6 46)]
def u9:=[m 47 8,m 48 4,o 49 (.bin .geq 47 48)]
def DH:=[o 50 (.ld true 3 6),o 51 (.a5 1 2),o 52 (.ld false 1 51),o 53 (.call 311 [52]),m 54 7,o 55 (.call 312 [54]),o 56 (.call 128 [53,55]),
 o 57 (.call 126 [50,56]),n (.st 3 6 57)]
def br:=[o 58 (.a5 1 0),o 59 (.ld false 1 58),m 60 7,o 61 (.call 138 [59,60]),m 7 61]
def CE:=[m 38 8,o 39 (.bin .add 38 (k 1)),m 8 39]
def db:=[o 62 (.ld true 3 6),n (.st 3 2 62),o 3 (.b7 (k 0))]
def l1:=(s (s (d r9 [34,35,36]) (i 37 .skip (x 0))) (s (b 1 (s (e CI [37,40,41,42,43,44,45,46]) (s (s (d u9 [47,48]) (i 49 (e DH [49,50,51,52,53,54,55,56,57]) .skip)) (d br [49,58,59,60,61])))) (d CE [38,39])))
def c:=(s (d r0 [0,3]) (s (s (d r1 [9,10,11,12,13,14,15,16]) (i 17 (s (d r2 [1,17,18]) .ret) .skip)) (s (d r3 [17,19,20,21,22,23,24]) (s (s (d r4 [25]) (i 26 (s (d r5 [1,4,5,26,27,28]) .ret) .skip)) (s (d r6 [5,26,29,30,31]) (s (d r7 [32,33]) (s (s (p r8) (b 0 (w l1))) (s (d db [1,4,6,7,8,37,62]) .ret))))))))
end L7
def L7:AFn:=⟨1,L7.c,[.cell 2 true 3,.tmp 3],false⟩
structure v3 (L:Lib):Prop extends o0 L where
 LI:L 308=some F.LI
 LT:L 309=some F.LT
 L8:L 310=some F.L8
 L6:L 311=some F.L6
 L4:L 312=some F.L4
 L9:L 313=some F.L9
 L5:L 314=some F.L5
 L7:L 315=some F.L7
end Go.c4.F

namespace Go.c4.F
open C
namespace MK
def r0:=[o 4 (.b7 (k 0))]
def r1:=[m 5 1,o 6 (.bin .lss 5 (k 1))]
def r2:=[o 4 (.b7 (k 0))]
def r3:=[m 7 0,m 8 1,o 9 (.bin .rem 7 8),m 0 9]
def r4:=[m 10 0,o 11 (.bin .lss 10 (k 0))]
def r5:=[m 12 0,m 13 1,o 14 (.bin .add 12 13),m 0 14]
def r6:=[m 15 0,m 4 15]
def c:=(s (d r0 [4]) (s (s (d r1 [5]) (i 6 (s (d r2 [0,1,6]) .ret) .skip)) (s (d r3 [6,7,8,9]) (s (s (d r4 [10]) (i 11 (d r5 [1,11,12,13,14]) .skip)) (s (d r6 [0,1,11,15]) .ret)))))
end MK
def MK:AFn:=⟨2,MK.c,[.tmp 4],false⟩
namespace MI
def r0:=[o 4 (.b7 (k 0))]
def r1:=[m 5 1,o 6 (.bin .geq 5 (k 0)),m 7 6,g 8 7 true (.b7 1),g 9 7 true (.b7 0),g 10 7 true (.len 9),g 11 7 true (.bin .lss 8 10),
 o 12 (.pick 7 11 (.c (.bool false)))]
def r2:=[m 13 0,m 14 1,o 15 (.a9 none 1 13 14),o 16 (.ld false 1 15),m 4 16]
def r3:=[o 4 (.b7 (k 0))]
def c:=(s (d r0 [4]) (s (s (d r1 [5,6,7,8,9,10,11]) (i 12 (s (d r2 [0,1,12,13,14,15,16]) .ret) .skip)) (s (d r3 [0,1,12]) .ret)))
end MI
def MI:AFn:=⟨2,MI.c,[.tmp 4],false⟩
structure s8 (L:Lib):Prop extends dv L where
 MK:L 34=some F.MK
 MI:L 35=some F.MI
end Go.c4.F

namespace Go.c4.F
open C
namespace MJ
def r0:=[o 4 (.b7 (.c .nil))]
def r1:=[o 5 (.w9 5 3)]
def r2:=[o 6 (.b7 (k 0))]
def r3:=[m 8 6,m 9 1,o 10 (.bin .lss 8 9)]
def r5:=[m 13 0,m 14 6,o 15 (.call 35 [13,14]),o 16 (.call 34 [15,(k 2000)]),m 7 16]
def r6:=[m 17 5,m 18 7,o 19 (.bin .rem 18 (k 25)),o 20 (.bin .sub 19 (k 12)),m 21 7,o 22 (.bin .quo 21 (k 25)),o 23 (.bin .rem 22 (k 8)),
 o 24 (.bin .add (k 1) 23),o 25 (.call 125 [20,24]),o 26 (.c9 26 3 [25]),o 27 (.app 27 3 56 17 26),m 5 27]
def r4:=[m 11 6,o 12 (.bin .add 11 (k 1)),m 6 12]
def r7:=[m 28 5,m 4 28]
def l1:=(s (s (d r3 [8,9]) (i 10 .skip (x 0))) (s (b 1 (s (d r5 [10,13,14,15,16]) (d r6 [7,17,18,19,20,21,22,23,24,25,26,27]))) (d r4 [11,12])))
def c:=(s (d r0 [4]) (s (p r1) (s (s (p r2) (b 0 (w l1))) (s (d r7 [0,1,5,6,10,28]) .ret))))
end MJ
def MJ:AFn:=⟨2,MJ.c,[.tmp 4],false⟩
structure z8 (L:Lib):Prop extends s8 L,a8 L where
 MJ:L 141=some F.MJ
end Go.c4.F

namespace Go.c4.F
open C
namespace GY
def r0:=[o 4 (.alloc 316004 [.nil,.nil,.nil,(.bool false),.nil,.nil])]
def r1:=[m 8 0,m 9 1,m 10 1,o 11 (.bin .mul 9 10),m 12 1,o 13 (.bin .mul (k 2) 12),o 14 (.bin .add 11 13),o 15 (.bin .add 14 (k 1)),
 o 16 (.o6 316016 141 [8,15]),m 5 16]
def r2:=[m 17 5,m 18 1,m 19 1,o 20 (.bin .mul 18 19),m 21 1,m 22 1,o 23 (.bin .mul 21 22),m 24 1,o 25 (.bin .add 23 24),o 26 (.dc 3 17 (some 20) (some 25)),
 m 27 5,m 28 1,m 29 1,o 30 (.bin .mul 28 29),m 31 1,o 32 (.bin .add 30 31),m 33 1,m 34 1,o 35 (.bin .mul 33 34),m 36 1,o 37 (.bin .mul (k 2) 36),
 o 38 (.bin .add 35 37),o 39 (.dc 3 27 (some 32) (some 38)),m 40 5,m 41 1,m 42 1,o 43 (.bin .mul 41 42),m 44 1,o 45 (.bin .mul (k 2) 44),
 o 46 (.bin .add 43 45),o 47 (.a9 none 3 40 46),q 48 [316006] (.ld true 3 47),
 o 49 (.build [.nil,.nil,.nil,(.bool false),.nil,.nil] [(1,1,26),(2,1,39),(3,3,48)]),
 o 6 (.alloc 316006 [.nil,.nil,.nil,(.bool false),.nil,.nil]),n (.st 6 6 49)]
def r3:=[o 7 (.b7 (k 0))]
def r4:=[m 50 7,m 51 1,o 52 (.bin .lss 50 51)]
def r6:=[o 55 (.a5 6 0),q 56 [316067] (.ld false 1 55),m 57 5,m 58 7,m 59 1,o 60 (.bin .mul 58 59),m 61 7,m 62 1,o 63 (.bin .mul 61 62),m 64 1,
 o 65 (.bin .add 63 64),o 66 (.dc 3 57 (some 60) (some 65)),o 67 (.c9 316067 1 [66]),o 68 (.app 800068 1 24 56 67),o 69 (.a5 6 0),n (.st 1 69 68)]
def r5:=[m 53 7,o 54 (.bin .add 53 (k 1)),m 7 54]
def r7:=[o 70 (.ld true 6 6),n (.st 6 4 70)]
def l1:=(s (s (d r4 [50,51]) (i 52 .skip (x 0))) (s (b 1 (e r6 [52,55,56,57,58,59,60,61,62,63,64,65,66,67,68,69])) (d r5 [53,54])))
def c:=(s (p r0) (s (d r1 [0,8,9,10,11,12,13,14,15,16]) (s (e r2 [17,18,19,20,21,22,23,24,25,26,27,28,29,30,31,32,33,34,35,36,37,38,39,40,41,42,43,44,45,46,47,48,49]) (s (s (p r3) (b 0 (w l1))) (s (d r7 [1,5,6,7,52,70]) .ret)))))
end GY
def GY:AFn:=⟨2,GY.c,[.cell 4 true 6],false⟩
namespace GX
def r0:=[o 4 (.alloc 4 [.nil,.nil,.nil,(.bool false),.nil,.nil])]
def r1:=[m 8 0,m 9 1,o 10 (.g6 316 [8,9]),o 5 (.alloc 5 [.nil,.nil,.nil,(.bool false),.nil,.nil]),n (.st 6 5 10)]
def r2:=[o 6 (.b7 (k 0))]
def r3:=[m 11 6,m 12 1,o 13 (.bin .lss 11 12)]
def r5:=[o 7 (.b7 (k 0))]
def r6:=[m 16 7,m 17 1,o 18 (.bin .lss 16 17)]
def r8:=[o 21 (.a5 5 0),o 22 (.ld false 1 21),m 23 6,o 24 (.a9 none 1 22 23),o 25 (.ld false 1 24),m 26 7,o 27 (.a5 5 0),o 28 (.ld false 1 27),m 29 6,
 o 30 (.a9 none 1 28 29),o 31 (.ld false 1 30),m 32 7,o 33 (.a9 none 3 31 32),o 34 (.ld true 3 33),m 35 1,o 36 (.bin .mul (k 16) 35),
 o 37 (.call 125 [(k 1),36]),o 38 (.call 128 [34,37]),o 39 (.a9 none 3 25 26),n (.st 3 39 38)]
def r7:=[m 19 7,o 20 (.bin .add 19 (k 1)),m 7 20]
def r4:=[m 14 6,o 15 (.bin .add 14 (k 1)),m 6 15]
def r9:=[o 40 (.ld true 6 5),n (.st 6 4 40)]
def l2:=(s (s (d r6 [16,17]) (i 18 .skip (x 2))) (s (b 3 (e r8 [18,21,22,23,24,25,26,27,28,29,30,31,32,33,34,35,36,37,38,39])) (d r7 [19,20])))
def l1:=(s (s (d r3 [11,12]) (i 13 .skip (x 0))) (s (b 1 (s (d r5 [13]) (b 2 (w l2)))) (d r4 [7,14,15,18])))
def c:=(s (p r0) (s (d r1 [0,8,9,10]) (s (s (p r2) (b 0 (w l1))) (s (d r9 [1,5,6,13,40]) .ret))))
end GX
def GX:AFn:=⟨2,GX.c,[.cell 4 true 6],false⟩
structure z7 (L:Lib):Prop extends z8 L where
 GY:L 316=some F.GY
 GX:L 317=some F.GX
end Go.c4.F

namespace Go.c4.F
open C
namespace JT
def r0:=[o 0 (.b7 (.c (.bool false)))]
def r1:=[o 7 (.call 124 [(k 1)]),o 8 (.call 125 [(k 1),(k 2)]),o 1 (.alloc 1 [(.bool false),.nil,.nil]),o 2 (.alloc 2 [(.bool false),.nil,.nil]),n (.st 3 1 7),
 n (.st 3 2 8)]
def r2:=[q 10 [15,3] (.ld true 3 1),o 11 (.c9 11 3 [10]),q 12 [11,3] (.ld true 3 1),q 13 [11,3] (.ld true 3 2),
 q 14 [11,3] (.call 152 [13]),o 15 (.c9 15 3 [12,14]),o 16 (.build [.nil,.nil] [(0,1,11),(1,1,15)]),
 q 17 [3] (.call 207 [16]),m 9 17,o 18 (.ext 9 0),o 19 (.ext 9 1),o 3 (.alloc 3 [.nil,.nil,.nil,(.bool false),.nil,.nil]),n (.st 6 3 18),
 m 4 19]
def r3:=[o 21 (.ld true 6 3),o 22 (.call 307 [21]),m 20 22,o 23 (.ext 20 0),o 24 (.ext 20 1),o 5 (.alloc 5 [(.bool false),.nil,.nil]),n (.st 3 5 23),m 6 24]
def r4:=[m 25 4,o 26 (.bin .eql 25 (k 0)),m 27 26,g 28 27 true (.b7 6),g 29 27 true (.bin .eql 28 (k 0)),o 30 (.pick 27 29 (.c (.bool false))),m 31 30,
 g 32 31 true (.ld true 3 5),g 33 31 true (.call 124 [(k 2)]),g 34 31 true (.call 127 [32,33]),g 35 31 true (.bin .eql 34 (k 0)),
 o 36 (.pick 31 35 (.c (.bool false))),m 0 36]
def c:=(s (d r0 [0]) (s (d r1 [7,8]) (s (e r2 [1,2,9,10,11,12,13,14,15,16,17,18,19]) (s (d r3 [3,20,21,22,23,24]) (s (e r4 [4,5,6,25,26,27,28,29,30,31,32,33,34,35,36]) .ret)))))
end JT
def JT:AFn:=⟨0,JT.c,[.tmp 0],false⟩
namespace IJ
def r0:=[o 6 (.b7 (.c (.bool false)))]
def r1:=[m 15 1,o 16 (.call 34 [15,(k 4)]),m 7 16]
def r2:=[m 17 0,m 18 7,o 19 (.call 317 [17,18]),o 8 (.alloc 8 [.nil,.nil,.nil,(.bool false),.nil,.nil]),n (.st 6 8 19)]
def r3:=[o 21 (.ld true 6 8),o 22 (.call 307 [21]),m 20 22,o 23 (.ext 20 0),o 24 (.ext 20 1),o 9 (.alloc 9 [(.bool false),.nil,.nil]),n (.st 3 9 23),m 10 24]
def r4:=[o 26 (.ld true 6 8),o 27 (.call 315 [26]),m 25 27,o 28 (.ext 25 0),o 29 (.ext 25 1),o 11 (.alloc 11 [(.bool false),.nil,.nil]),n (.st 3 11 28),m 12 29]
def r5:=[m 30 10,m 31 12,o 32 (.bin .neq 30 31),m 33 32,g 34 33 false (.b7 10),g 35 33 false (.bin .eql 34 (k 0)),g 36 33 false (.b7 35),
 g 37 36 true (.ld true 3 9),g 38 36 true (.ld true 3 11),g 39 36 true (.call 127 [37,38]),g 40 36 true (.bin .neq 39 (k 0)),
 g 41 33 false (.pick 36 40 (.c (.bool false))),o 42 (.pick 33 (.c (.bool true)) 41)]
def r6:=[o 6 (.b7 (.c (.bool false)))]
def r7:=[m 43 10,o 44 (.bin .neq 43 (k 0))]
def r8:=[o 45 (.call 318 []),m 6 45]
def r9:=[o 47 (.ld true 6 8),m 48 2,o 49 (.call 34 [48,(k 20)]),o 50 (.call 134 [47,49]),m 46 50,o 51 (.ext 46 0),o 52 (.ext 46 1),m 13 51,m 14 52]
def CE:=[o 53 (.call 318 []),m 54 53,g 55 54 true (.b7 14),g 56 54 true (.bin .eql 55 (k 0)),o 57 (.pick 54 56 (.c (.bool false))),m 58 57,g 59 58 true (.b7 13),
 g 60 58 true (.call 311 [59]),g 61 58 true (.ld true 3 9),g 62 58 true (.call 127 [60,61]),g 63 58 true (.bin .leq 62 (k 0)),
 o 64 (.pick 58 63 (.c (.bool false))),m 6 64]
def c:=(s (d r0 [6]) (s (d r1 [1,15,16]) (s (d r2 [0,7,17,18,19]) (s (d r3 [20,21,22,23,24]) (s (d r4 [25,26,27,28,29]) (s (s (d r5 [11,12,30,31,32,33,34,35,36,37,38,39,40,41]) (i 42 (s (d r6 [2,8,9,10,42]) .ret) .skip)) (s (s (d r7 [10,42,43]) (i 44 (s (d r8 [2,8,9,44,45]) .ret) .skip)) (s (e r9 [2,8,44,46,47,48,49,50,51,52]) (s (e CE [9,13,14,53,54,55,56,57,58,59,60,61,62,63,64]) .ret)))))))))
end IJ
def IJ:AFn:=⟨3,IJ.c,[.tmp 6],false⟩
structure fy (L:Lib):Prop extends n7 L,v3 L,z7 L where
 JT:L 318=some F.JT
 IJ:L 320=some F.IJ
end Go.c4.F
